-- Written by hv.py, a program of this session's own, over the kit's print: FnExactOpOk
import Derived.Test.YtjmlbkhcjgehdaaPFnExactOpOkx0
import Derived.Test.YtjmlbkhcjgehdaaPFnExactOpOkx2
namespace Go.Proofs.Ytjmlbkhcjgehdaa.PFnExactOpOk
open Go.RowKit Go.Proofs.YtjmlbkhcjgehdaaW.PrintWords Go.Proofs.YtjmlbkhcjgehdaaW.PrintLast Go.Proofs.YtjmlbkhcjgehdaaW.PrintMore Go.Proofs.Ytjmlbkhcjgehdaa.HFl Go.Proofs.Ytjmlbkhcjgehdaa.HMap Go.Proofs.Ytjmlbkhcjgehdaa.HMore Go.Proofs.Ytjmlbkhcjgehdaa
attribute [local go_sem] max2_int min2_int max_two min_two max_three min_three max_four min_four   -- for this text's walks alone
set_option linter.unusedVariables false
set_option linter.unusedSimpArgs false

/-! ### spec_OpOk: function 26 -/
mutual
def spec_OpOk.j0 : Nat → Bool → Int → Int → Int → Int → Int → Int → Nat → List Int → Int → Int → Nat → List Int → Int → Int → Nat → List Int → List Bool → Option (Bool)
  | 0, _, _, _, _, _, _, _, _, _, _, _, _, _, _, _, _, _, _ => none
  | k + 1, x18, x122000, x122001, x122002, x122003, x122004, x122005, x122006, x122007, x122008, x122009, x122010, x122011, x122012, x122013, x122014, x122015, x122016 => if x18 = true then (some false) else (if x122000 ≥ 2 then (spec_OpOk.j1 k (decide (x122000 ≤ 6)) x122000 x122001 x122002 x122003 x122004 x122005 x122006 x122007 x122008 x122009 x122010 x122011 x122012 x122013 x122014 x122015 x122016) else (spec_OpOk.j1 k false x122000 x122001 x122002 x122003 x122004 x122005 x122006 x122007 x122008 x122009 x122010 x122011 x122012 x122013 x122014 x122015 x122016))
def spec_OpOk.j1 : Nat → Bool → Int → Int → Int → Int → Int → Int → Nat → List Int → Int → Int → Nat → List Int → Int → Int → Nat → List Int → List Bool → Option (Bool)
  | 0, _, _, _, _, _, _, _, _, _, _, _, _, _, _, _, _, _, _ => none
  | k + 1, x3, x122000, x122001, x122002, x122003, x122004, x122005, x122006, x122007, x122008, x122009, x122010, x122011, x122012, x122013, x122014, x122015, x122016 => if x3 = true then ((spec_ItemClean.f k x122004 x122005 x122006 x122007).bind fun bt124 => ((spec_KeyOk.f k bt124.1 bt124.2.1 bt124.2.2.1 bt124.2.2.2).bind fun t130 => (spec_OpOk.j2 k (!t130) x122000 x122001 x122002 x122003 x122004 x122005 x122006 x122007 x122008 x122009 x122010 x122011 x122012 x122013 x122014 x122015 x122016))) else (spec_OpOk.j2 k false x122000 x122001 x122002 x122003 x122004 x122005 x122006 x122007 x122008 x122009 x122010 x122011 x122012 x122013 x122014 x122015 x122016)
def spec_OpOk.j2 : Nat → Bool → Int → Int → Int → Int → Int → Int → Nat → List Int → Int → Int → Nat → List Int → Int → Int → Nat → List Int → List Bool → Option (Bool)
  | 0, _, _, _, _, _, _, _, _, _, _, _, _, _, _, _, _, _, _ => none
  | k + 1, x34, x122000, x122001, x122002, x122003, x122004, x122005, x122006, x122007, x122008, x122009, x122010, x122011, x122012, x122013, x122014, x122015, x122016 => if x34 = true then (some false) else (if x122000 = 1 then ((spec_l5in.f x122002 0 1).bind fun t131 => (some t131)) else (if x122000 = 3 then ((spec_ItemOk.f k x122012 x122013 x122014 x122015).bind fun t132 => (if t132 = true then (some (x122012 != 0)) else (some false))) else (if x122000 = 5 then ((spec_ItemClean.f k x122008 x122009 x122010 x122011).bind fun bt133 => ((spec_KeyOk.f k bt133.1 bt133.2.1 bt133.2.2.1 bt133.2.2.2).bind fun t139 => (if t139 = true then ((spec_l5in.f x122003 0 50).bind fun t140 => (some t140)) else (some false)))) else (if x122000 = 6 then ((spec_ItemClean.f k x122008 x122009 x122010 x122011).bind fun bt141 => ((spec_KeyOk.f k bt141.1 bt141.2.1 bt141.2.2.1 bt141.2.2.2).bind fun t147 => (some t147))) else (if x122000 = 11 then ((spec_l5in.f x122003 0 15).bind fun t148 => (some t148)) else (if x122000 = 12 then (some (decide (x122003 ≥ 0))) else (if x122000 = 13 then (some (decide ((x122016.length : Int) ≤ 600))) else (some true))))))))
end
def spec_OpOk.f (k : Nat) (a0_0 : Int) (a0_1 : Int) (a0_2 : Int) (a0_3 : Int) (a0_4 : Int) (a0_5 : Int) (a0_6 : Nat) (l0_7 : List Int) (a0_8 : Int) (a0_9 : Int) (a0_10 : Nat) (l0_11 : List Int) (a0_12 : Int) (a0_13 : Int) (a0_14 : Nat) (l0_15 : List Int) (l0_16 : List Bool) : Option (Bool) := (spec_l5in.f a0_0 1 13).bind fun t122 => (if t122 = true then (if a0_0 ≤ 8 then ((spec_l5in.f a0_1 0 7).bind fun t123 => (spec_OpOk.j0 k (!t123) a0_0 a0_1 a0_2 a0_3 a0_4 a0_5 a0_6 l0_7 a0_8 a0_9 a0_10 l0_11 a0_12 a0_13 a0_14 l0_15 l0_16)) else (spec_OpOk.j0 k false a0_0 a0_1 a0_2 a0_3 a0_4 a0_5 a0_6 l0_7 a0_8 a0_9 a0_10 l0_11 a0_12 a0_13 a0_14 l0_15 l0_16)) else (spec_OpOk.j0 k true a0_0 a0_1 a0_2 a0_3 a0_4 a0_5 a0_6 l0_7 a0_8 a0_9 a0_10 l0_11 a0_12 a0_13 a0_14 l0_15 l0_16))
theorem spec_OpOk.mono_l : ∀ k, (∀ y0 y1 y2 y3 y4 y5 y6 y7 y8 y9 y10 y11 y12 y13 y14 y15 y16 y17, LeO (spec_OpOk.j0 k y0 y1 y2 y3 y4 y5 y6 y7 y8 y9 y10 y11 y12 y13 y14 y15 y16 y17) (spec_OpOk.j0 (k + 1) y0 y1 y2 y3 y4 y5 y6 y7 y8 y9 y10 y11 y12 y13 y14 y15 y16 y17)) ∧ (∀ y0 y1 y2 y3 y4 y5 y6 y7 y8 y9 y10 y11 y12 y13 y14 y15 y16 y17, LeO (spec_OpOk.j1 k y0 y1 y2 y3 y4 y5 y6 y7 y8 y9 y10 y11 y12 y13 y14 y15 y16 y17) (spec_OpOk.j1 (k + 1) y0 y1 y2 y3 y4 y5 y6 y7 y8 y9 y10 y11 y12 y13 y14 y15 y16 y17)) ∧ (∀ y0 y1 y2 y3 y4 y5 y6 y7 y8 y9 y10 y11 y12 y13 y14 y15 y16 y17, LeO (spec_OpOk.j2 k y0 y1 y2 y3 y4 y5 y6 y7 y8 y9 y10 y11 y12 y13 y14 y15 y16 y17) (spec_OpOk.j2 (k + 1) y0 y1 y2 y3 y4 y5 y6 y7 y8 y9 y10 y11 y12 y13 y14 y15 y16 y17))
  | 0 => ⟨fun _ _ _ _ _ _ _ _ _ _ _ _ _ _ _ _ _ _ r h => by simp [spec_OpOk.j0] at h, fun _ _ _ _ _ _ _ _ _ _ _ _ _ _ _ _ _ _ r h => by simp [spec_OpOk.j1] at h, fun _ _ _ _ _ _ _ _ _ _ _ _ _ _ _ _ _ _ r h => by simp [spec_OpOk.j2] at h⟩
  | k + 1 => by
    obtain ⟨ih0, ih1, ih2⟩ := spec_OpOk.mono_l k
    refine ⟨?_, ?_, ?_⟩
    · intro y0 y1 y2 y3 y4 y5 y6 y7 y8 y9 y10 y11 y12 y13 y14 y15 y16 y17
      unfold spec_OpOk.j0
      repeat' first
      | (with_reducible exact ih0 _ _ _ _ _ _ _ _ _ _ _ _ _ _ _ _ _ _)
      | (with_reducible exact ih1 _ _ _ _ _ _ _ _ _ _ _ _ _ _ _ _ _ _)
      | (with_reducible exact ih2 _ _ _ _ _ _ _ _ _ _ _ _ _ _ _ _ _ _)
      | (with_reducible exact spec_ItemClean.mono _ _ _ _ _)
      | (with_reducible exact spec_ItemOk.mono _ _ _ _ _)
      | (with_reducible exact spec_KeyOk.mono _ _ _ _ _)
      | (with_reducible exact LeO.refl _)
      | (with_reducible exact LeO.none _)
      | (with_reducible refine LeO.ite ?_ ?_)
      | (with_reducible refine LeO.bind ?_ (fun _ => ?_))
      | exact ih0 _ _ _ _ _ _ _ _ _ _ _ _ _ _ _ _ _ _
      | exact ih1 _ _ _ _ _ _ _ _ _ _ _ _ _ _ _ _ _ _
      | exact ih2 _ _ _ _ _ _ _ _ _ _ _ _ _ _ _ _ _ _
      | exact spec_ItemClean.mono _ _ _ _ _
      | exact spec_ItemOk.mono _ _ _ _ _
      | exact spec_KeyOk.mono _ _ _ _ _
      | exact LeO.none _
      | refine LeO.ite ?_ ?_
      | refine LeO.bind ?_ (fun _ => ?_)
    · intro y0 y1 y2 y3 y4 y5 y6 y7 y8 y9 y10 y11 y12 y13 y14 y15 y16 y17
      unfold spec_OpOk.j1
      repeat' first
      | (with_reducible exact ih0 _ _ _ _ _ _ _ _ _ _ _ _ _ _ _ _ _ _)
      | (with_reducible exact ih1 _ _ _ _ _ _ _ _ _ _ _ _ _ _ _ _ _ _)
      | (with_reducible exact ih2 _ _ _ _ _ _ _ _ _ _ _ _ _ _ _ _ _ _)
      | (with_reducible exact spec_ItemClean.mono _ _ _ _ _)
      | (with_reducible exact spec_ItemOk.mono _ _ _ _ _)
      | (with_reducible exact spec_KeyOk.mono _ _ _ _ _)
      | (with_reducible exact LeO.refl _)
      | (with_reducible exact LeO.none _)
      | (with_reducible refine LeO.ite ?_ ?_)
      | (with_reducible refine LeO.bind ?_ (fun _ => ?_))
      | exact ih0 _ _ _ _ _ _ _ _ _ _ _ _ _ _ _ _ _ _
      | exact ih1 _ _ _ _ _ _ _ _ _ _ _ _ _ _ _ _ _ _
      | exact ih2 _ _ _ _ _ _ _ _ _ _ _ _ _ _ _ _ _ _
      | exact spec_ItemClean.mono _ _ _ _ _
      | exact spec_ItemOk.mono _ _ _ _ _
      | exact spec_KeyOk.mono _ _ _ _ _
      | exact LeO.none _
      | refine LeO.ite ?_ ?_
      | refine LeO.bind ?_ (fun _ => ?_)
    · intro y0 y1 y2 y3 y4 y5 y6 y7 y8 y9 y10 y11 y12 y13 y14 y15 y16 y17
      unfold spec_OpOk.j2
      repeat' first
      | (with_reducible exact ih0 _ _ _ _ _ _ _ _ _ _ _ _ _ _ _ _ _ _)
      | (with_reducible exact ih1 _ _ _ _ _ _ _ _ _ _ _ _ _ _ _ _ _ _)
      | (with_reducible exact ih2 _ _ _ _ _ _ _ _ _ _ _ _ _ _ _ _ _ _)
      | (with_reducible exact spec_ItemClean.mono _ _ _ _ _)
      | (with_reducible exact spec_ItemOk.mono _ _ _ _ _)
      | (with_reducible exact spec_KeyOk.mono _ _ _ _ _)
      | (with_reducible exact LeO.refl _)
      | (with_reducible exact LeO.none _)
      | (with_reducible refine LeO.ite ?_ ?_)
      | (with_reducible refine LeO.bind ?_ (fun _ => ?_))
      | exact ih0 _ _ _ _ _ _ _ _ _ _ _ _ _ _ _ _ _ _
      | exact ih1 _ _ _ _ _ _ _ _ _ _ _ _ _ _ _ _ _ _
      | exact ih2 _ _ _ _ _ _ _ _ _ _ _ _ _ _ _ _ _ _
      | exact spec_ItemClean.mono _ _ _ _ _
      | exact spec_ItemOk.mono _ _ _ _ _
      | exact spec_KeyOk.mono _ _ _ _ _
      | exact LeO.none _
      | refine LeO.ite ?_ ?_
      | refine LeO.bind ?_ (fun _ => ?_)
theorem spec_OpOk.mono : ∀ a0 a1 a2 a3 a4 a5 a6 a7 a8 a9 a10 a11 a12 a13 a14 a15 a16 k, LeO (spec_OpOk.f k a0 a1 a2 a3 a4 a5 a6 a7 a8 a9 a10 a11 a12 a13 a14 a15 a16) (spec_OpOk.f (k + 1) a0 a1 a2 a3 a4 a5 a6 a7 a8 a9 a10 a11 a12 a13 a14 a15 a16) := by
  intro a0 a1 a2 a3 a4 a5 a6 a7 a8 a9 a10 a11 a12 a13 a14 a15 a16 k
  obtain ⟨ih0, ih1, ih2⟩ := spec_OpOk.mono_l k
  unfold spec_OpOk.f
  repeat' first
      | (with_reducible exact ih0 _ _ _ _ _ _ _ _ _ _ _ _ _ _ _ _ _ _)
      | (with_reducible exact ih1 _ _ _ _ _ _ _ _ _ _ _ _ _ _ _ _ _ _)
      | (with_reducible exact ih2 _ _ _ _ _ _ _ _ _ _ _ _ _ _ _ _ _ _)
      | (with_reducible exact spec_ItemClean.mono _ _ _ _ _)
      | (with_reducible exact spec_ItemOk.mono _ _ _ _ _)
      | (with_reducible exact spec_KeyOk.mono _ _ _ _ _)
      | (with_reducible exact LeO.refl _)
      | (with_reducible exact LeO.none _)
      | (with_reducible refine LeO.ite ?_ ?_)
      | (with_reducible refine LeO.bind ?_ (fun _ => ?_))
      | exact ih0 _ _ _ _ _ _ _ _ _ _ _ _ _ _ _ _ _ _
      | exact ih1 _ _ _ _ _ _ _ _ _ _ _ _ _ _ _ _ _ _
      | exact ih2 _ _ _ _ _ _ _ _ _ _ _ _ _ _ _ _ _ _
      | exact spec_ItemClean.mono _ _ _ _ _
      | exact spec_ItemOk.mono _ _ _ _ _
      | exact spec_KeyOk.mono _ _ _ _ _
      | exact LeO.none _
      | refine LeO.ite ?_ ?_
      | refine LeO.bind ?_ (fun _ => ?_)
set_option maxHeartbeats 8000000 in
set_option maxRecDepth 100000 in
theorem spec_OpOk.calls (k : Nat) (a0_0 : Int) (a0_1 : Int) (a0_2 : Int) (a0_3 : Int) (a0_4 : Int) (a0_5 : Int) (a0_6 : Nat) (A0_7 : Option Addr) (c0_7 : Nat) (l0_7 : List Int) (a0_8 : Int) (a0_9 : Int) (a0_10 : Nat) (A0_11 : Option Addr) (c0_11 : Nat) (l0_11 : List Int) (a0_12 : Int) (a0_13 : Int) (a0_14 : Nat) (A0_15 : Option Addr) (c0_15 : Nat) (l0_15 : List Int) (A0_16 : Option Addr) (c0_16 : Nat) (l0_16 : List Bool) (r : Bool) (w : World) (hr0_7 : Kd.C (Kd.int .u8) w A0_7 l0_7.length l0_7) (hc0_7 : l0_7.length ≤ c0_7) (hr0_11 : Kd.C (Kd.int .u8) w A0_11 l0_11.length l0_11) (hc0_11 : l0_11.length ≤ c0_11) (hr0_15 : Kd.C (Kd.int .u8) w A0_15 l0_15.length l0_15) (hc0_15 : l0_15.length ≤ c0_15) (hr0_16 : Kd.C Kd.bool w A0_16 l0_16.length l0_16) (hc0_16 : l0_16.length ≤ c0_16) (h : spec_OpOk.f k a0_0 a0_1 a0_2 a0_3 a0_4 a0_5 a0_6 l0_7 a0_8 a0_9 a0_10 l0_11 a0_12 a0_13 a0_14 l0_15 l0_16 = some r) :
    Calls Try.prog 26 #[.agg #[.int .i64 a0_0, .int .i64 a0_1, .int .i64 a0_2, .int .i64 a0_3, .int .i64 a0_4, .int .i64 a0_5, .float .f64 a0_6, .slice A0_7 l0_7.length c0_7, .int .i64 a0_8, .int .i64 a0_9, .float .f64 a0_10, .slice A0_11 l0_11.length c0_11, .int .i64 a0_12, .int .i64 a0_13, .float .f64 a0_14, .slice A0_15 l0_15.length c0_15, .slice A0_16 l0_16.length c0_16]] w fun e w' => e = .returned (.bool r) ∧ Below w.heap.size w w' := by
  have hu48 := Try.underlying48
  have hu27 := Try.underlying27
  have HR0_7 := Aside0.mk hr0_7
  have HC0_7 := Aside0.mk hc0_7
  clear hr0_7 hc0_7
  have HR0_11 := Aside0.mk hr0_11
  have HC0_11 := Aside0.mk hc0_11
  clear hr0_11 hc0_11
  have HR0_15 := Aside0.mk hr0_15
  have HC0_15 := Aside0.mk hc0_15
  clear hr0_15 hc0_15
  have HR0_16 := Aside0.mk hr0_16
  have HC0_16 := Aside0.mk hc0_16
  clear hr0_16 hc0_16
  have HB := Aside0.mk (Below.refl w.heap.size w)
  have H : ((spec_l5in.f a0_0 1 13).bind fun t122 => (if t122 = true then (if a0_0 ≤ 8 then ((spec_l5in.f a0_1 0 7).bind fun t123 => (spec_OpOk.j0 k (!t123) a0_0 a0_1 a0_2 a0_3 a0_4 a0_5 a0_6 l0_7 a0_8 a0_9 a0_10 l0_11 a0_12 a0_13 a0_14 l0_15 l0_16)) else (spec_OpOk.j0 k false a0_0 a0_1 a0_2 a0_3 a0_4 a0_5 a0_6 l0_7 a0_8 a0_9 a0_10 l0_11 a0_12 a0_13 a0_14 l0_15 l0_16)) else (spec_OpOk.j0 k true a0_0 a0_1 a0_2 a0_3 a0_4 a0_5 a0_6 l0_7 a0_8 a0_9 a0_10 l0_11 a0_12 a0_13 a0_14 l0_15 l0_16))) = some r := h
  clear h
  have HC2 := Aside0.mk H
  clear H
  go_enter Try.func26, Try.ntmps26
  go_upto_region 1 with (first | ((with_reducible refine gate_dst (N := 1) rfl ?_); refine box_event ?hg (N := 1) ?hd (cs := #[.int .i64 a0_0, .int .i64 a0_1, .int .i64 a0_2, .int .i64 a0_3, .int .i64 a0_4, .int .i64 a0_5, .float .f64 a0_6, .slice A0_7 l0_7.length c0_7, .int .i64 a0_8, .int .i64 a0_9, .float .f64 a0_10, .slice A0_11 l0_11.length c0_11, .int .i64 a0_12, .int .i64 a0_13, .float .f64 a0_14, .slice A0_15 l0_15.length c0_15, .slice A0_16 l0_16.length c0_16]) (t := 48) ?hr ?_; (case hd => rfl); (case hg => rfl); (case hr => first | (go_simp; done) | (go_simp; rfl)); intro gb121 hg w3 hbox hb; have n0_ := Aside0.mk (below_step (by repeat (first | (with_reducible first | exact HB.out | apply below_alloc | apply pw_below_drewN | apply below_drew1) | exact HB.out)) hb); have n1_ := Aside0.mk (hbox); have n2_ := Aside0.mk ((by rw [hg]; exact (below_size (by repeat (first | (with_reducible first | exact HB.out | apply below_alloc | apply pw_below_drewN | apply below_drew1) | exact HB.out))) : w.heap.size ≤ gb121)); have n3_ := Aside0.mk ((by rw [hg]; exact (below_size (by repeat (first | (with_reducible first | exact HB.out | apply below_alloc | apply pw_below_drewN | apply below_drew1) | exact HB.out))) : w.heap.size ≤ gb121)); clear HB; have HB := n0_; have BK121 := n1_; have GW121 := n2_; have GE121 := n3_; clear n0_ n1_ n2_ n3_; clear hb hbox hg))
  (try simp only [Act.put, List.setIfInBounds_toArray, List.set_cons_zero, List.set_cons_succ])
  go_cut [18] (fun v18 wc => ∃ (kq : Nat) (x18_1 : Bool), v18 = .bool x18_1 ∧ Aside0 (spec_OpOk.j0 kq x18_1 a0_0 a0_1 a0_2 a0_3 a0_4 a0_5 a0_6 l0_7 a0_8 a0_9 a0_10 l0_11 a0_12 a0_13 a0_14 l0_15 l0_16 = some r) ∧ Aside0 (kq ≤ k) ∧ Aside0 (wc.heap[gb121]? = some (.cells #[.int .i64 a0_0, .int .i64 a0_1, .int .i64 a0_2, .int .i64 a0_3, .int .i64 a0_4, .int .i64 a0_5, .float .f64 a0_6, (.slice A0_7 l0_7.length c0_7), .int .i64 a0_8, .int .i64 a0_9, .float .f64 a0_10, (.slice A0_11 l0_11.length c0_11), .int .i64 a0_12, .int .i64 a0_13, .float .f64 a0_14, (.slice A0_15 l0_15.length c0_15), (.slice A0_16 l0_16.length c0_16)] 48 (0, 0))) ∧ Aside0 (Below w.heap.size w wc))
  case first =>
    have H := HC2.out
    clear HC2
    replace H := Option.bind_eq_some_iff.mp H
    obtain ⟨t122, A40, H⟩ := H
    replace H : (if t122 = true then (if a0_0 ≤ 8 then ((spec_l5in.f a0_1 0 7).bind fun t123 => (spec_OpOk.j0 k (!t123) a0_0 a0_1 a0_2 a0_3 a0_4 a0_5 a0_6 l0_7 a0_8 a0_9 a0_10 l0_11 a0_12 a0_13 a0_14 l0_15 l0_16)) else (spec_OpOk.j0 k false a0_0 a0_1 a0_2 a0_3 a0_4 a0_5 a0_6 l0_7 a0_8 a0_9 a0_10 l0_11 a0_12 a0_13 a0_14 l0_15 l0_16)) else (spec_OpOk.j0 k true a0_0 a0_1 a0_2 a0_3 a0_4 a0_5 a0_6 l0_7 a0_8 a0_9 a0_10 l0_11 a0_12 a0_13 a0_14 l0_15 l0_16)) = some r := H
    have A4 := Aside0.mk A40
    clear A40
    by_cases c5 : t122 = true
    · subst c5
      have H1 : (if a0_0 ≤ 8 then ((spec_l5in.f a0_1 0 7).bind fun t123 => (spec_OpOk.j0 k (!t123) a0_0 a0_1 a0_2 a0_3 a0_4 a0_5 a0_6 l0_7 a0_8 a0_9 a0_10 l0_11 a0_12 a0_13 a0_14 l0_15 l0_16)) else (spec_OpOk.j0 k false a0_0 a0_1 a0_2 a0_3 a0_4 a0_5 a0_6 l0_7 a0_8 a0_9 a0_10 l0_11 a0_12 a0_13 a0_14 l0_15 l0_16)) = some r := by rw [if_pos rfl] at H; exact H
      clear H
      have H := H1
      clear H1
      by_cases c6 : a0_0 ≤ 8
      · rw [if_pos c6] at H
        have c6b0 : decide (a0_0 ≤ 8) = true := decide_eq_true c6
        clear c6
        (first | rw [c6b0] | (simp only [i64_w, i32_w]; rw [c6b0]) | skip)
        replace H := Option.bind_eq_some_iff.mp H
        obtain ⟨t123, A70, H⟩ := H
        replace H : (spec_OpOk.j0 k (!t123) a0_0 a0_1 a0_2 a0_3 a0_4 a0_5 a0_6 l0_7 a0_8 a0_9 a0_10 l0_11 a0_12 a0_13 a0_14 l0_15 l0_16) = some r := H
        have A7 := Aside0.mk A70
        clear A70
        have H' := Aside0.mk H
        clear H
        have hcz8_0 : w3.cell? ⟨gb121, 0, none⟩ = some (.int .i64 a0_0) := (blk_cell BK121.out 0).trans rfl
        have hcz8_1 : w3.cell? ⟨gb121, 1, none⟩ = some (.int .i64 a0_1) := (blk_cell BK121.out 1).trans rfl
        have hcz8_2 : w3.cell? ⟨gb121, 2, none⟩ = some (.int .i64 a0_2) := (blk_cell BK121.out 2).trans rfl
        have hcz8_3 : w3.cell? ⟨gb121, 3, none⟩ = some (.int .i64 a0_3) := (blk_cell BK121.out 3).trans rfl
        have hcz8_4 : w3.cell? ⟨gb121, 4, none⟩ = some (.int .i64 a0_4) := (blk_cell BK121.out 4).trans rfl
        have hcz8_5 : w3.cell? ⟨gb121, 5, none⟩ = some (.int .i64 a0_5) := (blk_cell BK121.out 5).trans rfl
        have hcz8_6 : w3.cell? ⟨gb121, 6, none⟩ = some (.float .f64 a0_6) := (blk_cell BK121.out 6).trans rfl
        have hcz8_7 : w3.cell? ⟨gb121, 7, none⟩ = some (.slice A0_7 l0_7.length c0_7) := (blk_cell BK121.out 7).trans rfl
        have hcz8_8 : w3.cell? ⟨gb121, 8, none⟩ = some (.int .i64 a0_8) := (blk_cell BK121.out 8).trans rfl
        have hcz8_9 : w3.cell? ⟨gb121, 9, none⟩ = some (.int .i64 a0_9) := (blk_cell BK121.out 9).trans rfl
        have hcz8_10 : w3.cell? ⟨gb121, 10, none⟩ = some (.float .f64 a0_10) := (blk_cell BK121.out 10).trans rfl
        have hcz8_11 : w3.cell? ⟨gb121, 11, none⟩ = some (.slice A0_11 l0_11.length c0_11) := (blk_cell BK121.out 11).trans rfl
        have hcz8_12 : w3.cell? ⟨gb121, 12, none⟩ = some (.int .i64 a0_12) := (blk_cell BK121.out 12).trans rfl
        have hcz8_13 : w3.cell? ⟨gb121, 13, none⟩ = some (.int .i64 a0_13) := (blk_cell BK121.out 13).trans rfl
        have hcz8_14 : w3.cell? ⟨gb121, 14, none⟩ = some (.float .f64 a0_14) := (blk_cell BK121.out 14).trans rfl
        have hcz8_15 : w3.cell? ⟨gb121, 15, none⟩ = some (.slice A0_15 l0_15.length c0_15) := (blk_cell BK121.out 15).trans rfl
        have hcz8_16 : w3.cell? ⟨gb121, 16, none⟩ = some (.slice A0_16 l0_16.length c0_16) := (blk_cell BK121.out 16).trans rfl
        have hfz8_0 := blk_frozen BK121.out 0
        have hfz8_1 := blk_frozen BK121.out 1
        have hfz8_2 := blk_frozen BK121.out 2
        have hfz8_3 := blk_frozen BK121.out 3
        have hfz8_4 := blk_frozen BK121.out 4
        have hfz8_5 := blk_frozen BK121.out 5
        have hfz8_6 := blk_frozen BK121.out 6
        have hfz8_7 := blk_frozen BK121.out 7
        have hfz8_8 := blk_frozen BK121.out 8
        have hfz8_9 := blk_frozen BK121.out 9
        have hfz8_10 := blk_frozen BK121.out 10
        have hfz8_11 := blk_frozen BK121.out 11
        have hfz8_12 := blk_frozen BK121.out 12
        have hfz8_13 := blk_frozen BK121.out 13
        have hfz8_14 := blk_frozen BK121.out 14
        have hfz8_15 := blk_frozen BK121.out 15
        have hfz8_16 := blk_frozen BK121.out 16
        go_wp2_with (first | ((with_reducible refine gate_callee (f := 75) rfl ?_); refine goesL_ (some 6) rfl rfl Try.func75 (by kernel_rfl) rfl #[.int .i64 a0_0, .int .i64 1, .int .i64 13] rfl (by (try simp only [List.map_toArray, List.map_cons, List.map_nil]); first | done | rfl | (simp only [List.length_drop, List.length_take]; rfl)) ?_; (with_reducible refine (spec_l5in.calls a0_0 1 13 true _ A4.out).mono ?_); rintro e w' ⟨rfl, ⟨nd, rfl⟩⟩; refine ⟨_, rfl, ?_⟩) | (go_at_call 75; (with_reducible refine (spec_l5in.calls a0_1 0 7 t123 _ A7.out).mono ?_); rintro e w' ⟨rfl, ⟨nd, rfl⟩⟩))
        go_meet
        case rel => exact ⟨_, (!t123), (by first | rfl | (simp; done) | (simp [*]; done)), H', ⟨by first | omega | exact Nat.le_refl _⟩, ⟨by (with_reducible repeat (first | refine blk_drewN ?_ _ | refine blk_drew ?_ | refine blk_alloc ?_ _)); exact BK121.out⟩, ⟨by repeat (first | (with_reducible first | exact HB.out | apply below_alloc | apply pw_below_drewN | apply below_drew1 | refine below_set ?_ GE121.out) | exact HB.out)⟩⟩
      · rw [if_neg c6] at H
        have c6b0 : decide (a0_0 ≤ 8) = false := decide_eq_false c6
        clear c6
        (first | rw [c6b0] | (simp only [i64_w, i32_w]; rw [c6b0]) | skip)
        have H' := Aside0.mk H
        clear H
        have hcz9_0 : w3.cell? ⟨gb121, 0, none⟩ = some (.int .i64 a0_0) := (blk_cell BK121.out 0).trans rfl
        have hcz9_1 : w3.cell? ⟨gb121, 1, none⟩ = some (.int .i64 a0_1) := (blk_cell BK121.out 1).trans rfl
        have hcz9_2 : w3.cell? ⟨gb121, 2, none⟩ = some (.int .i64 a0_2) := (blk_cell BK121.out 2).trans rfl
        have hcz9_3 : w3.cell? ⟨gb121, 3, none⟩ = some (.int .i64 a0_3) := (blk_cell BK121.out 3).trans rfl
        have hcz9_4 : w3.cell? ⟨gb121, 4, none⟩ = some (.int .i64 a0_4) := (blk_cell BK121.out 4).trans rfl
        have hcz9_5 : w3.cell? ⟨gb121, 5, none⟩ = some (.int .i64 a0_5) := (blk_cell BK121.out 5).trans rfl
        have hcz9_6 : w3.cell? ⟨gb121, 6, none⟩ = some (.float .f64 a0_6) := (blk_cell BK121.out 6).trans rfl
        have hcz9_7 : w3.cell? ⟨gb121, 7, none⟩ = some (.slice A0_7 l0_7.length c0_7) := (blk_cell BK121.out 7).trans rfl
        have hcz9_8 : w3.cell? ⟨gb121, 8, none⟩ = some (.int .i64 a0_8) := (blk_cell BK121.out 8).trans rfl
        have hcz9_9 : w3.cell? ⟨gb121, 9, none⟩ = some (.int .i64 a0_9) := (blk_cell BK121.out 9).trans rfl
        have hcz9_10 : w3.cell? ⟨gb121, 10, none⟩ = some (.float .f64 a0_10) := (blk_cell BK121.out 10).trans rfl
        have hcz9_11 : w3.cell? ⟨gb121, 11, none⟩ = some (.slice A0_11 l0_11.length c0_11) := (blk_cell BK121.out 11).trans rfl
        have hcz9_12 : w3.cell? ⟨gb121, 12, none⟩ = some (.int .i64 a0_12) := (blk_cell BK121.out 12).trans rfl
        have hcz9_13 : w3.cell? ⟨gb121, 13, none⟩ = some (.int .i64 a0_13) := (blk_cell BK121.out 13).trans rfl
        have hcz9_14 : w3.cell? ⟨gb121, 14, none⟩ = some (.float .f64 a0_14) := (blk_cell BK121.out 14).trans rfl
        have hcz9_15 : w3.cell? ⟨gb121, 15, none⟩ = some (.slice A0_15 l0_15.length c0_15) := (blk_cell BK121.out 15).trans rfl
        have hcz9_16 : w3.cell? ⟨gb121, 16, none⟩ = some (.slice A0_16 l0_16.length c0_16) := (blk_cell BK121.out 16).trans rfl
        have hfz9_0 := blk_frozen BK121.out 0
        have hfz9_1 := blk_frozen BK121.out 1
        have hfz9_2 := blk_frozen BK121.out 2
        have hfz9_3 := blk_frozen BK121.out 3
        have hfz9_4 := blk_frozen BK121.out 4
        have hfz9_5 := blk_frozen BK121.out 5
        have hfz9_6 := blk_frozen BK121.out 6
        have hfz9_7 := blk_frozen BK121.out 7
        have hfz9_8 := blk_frozen BK121.out 8
        have hfz9_9 := blk_frozen BK121.out 9
        have hfz9_10 := blk_frozen BK121.out 10
        have hfz9_11 := blk_frozen BK121.out 11
        have hfz9_12 := blk_frozen BK121.out 12
        have hfz9_13 := blk_frozen BK121.out 13
        have hfz9_14 := blk_frozen BK121.out 14
        have hfz9_15 := blk_frozen BK121.out 15
        have hfz9_16 := blk_frozen BK121.out 16
        go_wp2_with (first | ((with_reducible refine gate_callee (f := 75) rfl ?_); refine goesL_ (some 6) rfl rfl Try.func75 (by kernel_rfl) rfl #[.int .i64 a0_0, .int .i64 1, .int .i64 13] rfl (by (try simp only [List.map_toArray, List.map_cons, List.map_nil]); first | done | rfl | (simp only [List.length_drop, List.length_take]; rfl)) ?_; (with_reducible refine (spec_l5in.calls a0_0 1 13 true _ A4.out).mono ?_); rintro e w' ⟨rfl, ⟨nd, rfl⟩⟩; refine ⟨_, rfl, ?_⟩))
        go_meet
        case rel => exact ⟨_, (false), (by first | rfl | (simp; done) | (simp [*]; done)), H', ⟨by first | omega | exact Nat.le_refl _⟩, ⟨by (with_reducible repeat (first | refine blk_drewN ?_ _ | refine blk_drew ?_ | refine blk_alloc ?_ _)); exact BK121.out⟩, ⟨by repeat (first | (with_reducible first | exact HB.out | apply below_alloc | apply pw_below_drewN | apply below_drew1 | refine below_set ?_ GE121.out) | exact HB.out)⟩⟩
    · replace c5 := Bool.eq_false_iff.mpr c5
      subst c5
      have H1 : (spec_OpOk.j0 k true a0_0 a0_1 a0_2 a0_3 a0_4 a0_5 a0_6 l0_7 a0_8 a0_9 a0_10 l0_11 a0_12 a0_13 a0_14 l0_15 l0_16) = some r := by rw [if_neg (show ¬ (false = true) by decide)] at H; exact H
      clear H
      have H := H1
      clear H1
      have H' := Aside0.mk H
      clear H
      have hcz10_0 : w3.cell? ⟨gb121, 0, none⟩ = some (.int .i64 a0_0) := (blk_cell BK121.out 0).trans rfl
      have hcz10_1 : w3.cell? ⟨gb121, 1, none⟩ = some (.int .i64 a0_1) := (blk_cell BK121.out 1).trans rfl
      have hcz10_2 : w3.cell? ⟨gb121, 2, none⟩ = some (.int .i64 a0_2) := (blk_cell BK121.out 2).trans rfl
      have hcz10_3 : w3.cell? ⟨gb121, 3, none⟩ = some (.int .i64 a0_3) := (blk_cell BK121.out 3).trans rfl
      have hcz10_4 : w3.cell? ⟨gb121, 4, none⟩ = some (.int .i64 a0_4) := (blk_cell BK121.out 4).trans rfl
      have hcz10_5 : w3.cell? ⟨gb121, 5, none⟩ = some (.int .i64 a0_5) := (blk_cell BK121.out 5).trans rfl
      have hcz10_6 : w3.cell? ⟨gb121, 6, none⟩ = some (.float .f64 a0_6) := (blk_cell BK121.out 6).trans rfl
      have hcz10_7 : w3.cell? ⟨gb121, 7, none⟩ = some (.slice A0_7 l0_7.length c0_7) := (blk_cell BK121.out 7).trans rfl
      have hcz10_8 : w3.cell? ⟨gb121, 8, none⟩ = some (.int .i64 a0_8) := (blk_cell BK121.out 8).trans rfl
      have hcz10_9 : w3.cell? ⟨gb121, 9, none⟩ = some (.int .i64 a0_9) := (blk_cell BK121.out 9).trans rfl
      have hcz10_10 : w3.cell? ⟨gb121, 10, none⟩ = some (.float .f64 a0_10) := (blk_cell BK121.out 10).trans rfl
      have hcz10_11 : w3.cell? ⟨gb121, 11, none⟩ = some (.slice A0_11 l0_11.length c0_11) := (blk_cell BK121.out 11).trans rfl
      have hcz10_12 : w3.cell? ⟨gb121, 12, none⟩ = some (.int .i64 a0_12) := (blk_cell BK121.out 12).trans rfl
      have hcz10_13 : w3.cell? ⟨gb121, 13, none⟩ = some (.int .i64 a0_13) := (blk_cell BK121.out 13).trans rfl
      have hcz10_14 : w3.cell? ⟨gb121, 14, none⟩ = some (.float .f64 a0_14) := (blk_cell BK121.out 14).trans rfl
      have hcz10_15 : w3.cell? ⟨gb121, 15, none⟩ = some (.slice A0_15 l0_15.length c0_15) := (blk_cell BK121.out 15).trans rfl
      have hcz10_16 : w3.cell? ⟨gb121, 16, none⟩ = some (.slice A0_16 l0_16.length c0_16) := (blk_cell BK121.out 16).trans rfl
      have hfz10_0 := blk_frozen BK121.out 0
      have hfz10_1 := blk_frozen BK121.out 1
      have hfz10_2 := blk_frozen BK121.out 2
      have hfz10_3 := blk_frozen BK121.out 3
      have hfz10_4 := blk_frozen BK121.out 4
      have hfz10_5 := blk_frozen BK121.out 5
      have hfz10_6 := blk_frozen BK121.out 6
      have hfz10_7 := blk_frozen BK121.out 7
      have hfz10_8 := blk_frozen BK121.out 8
      have hfz10_9 := blk_frozen BK121.out 9
      have hfz10_10 := blk_frozen BK121.out 10
      have hfz10_11 := blk_frozen BK121.out 11
      have hfz10_12 := blk_frozen BK121.out 12
      have hfz10_13 := blk_frozen BK121.out 13
      have hfz10_14 := blk_frozen BK121.out 14
      have hfz10_15 := blk_frozen BK121.out 15
      have hfz10_16 := blk_frozen BK121.out 16
      go_wp2_with (first | ((with_reducible refine gate_callee (f := 75) rfl ?_); refine goesL_ (some 6) rfl rfl Try.func75 (by kernel_rfl) rfl #[.int .i64 a0_0, .int .i64 1, .int .i64 13] rfl (by (try simp only [List.map_toArray, List.map_cons, List.map_nil]); first | done | rfl | (simp only [List.length_drop, List.length_take]; rfl)) ?_; (with_reducible refine (spec_l5in.calls a0_0 1 13 false _ A4.out).mono ?_); rintro e w' ⟨rfl, ⟨nd, rfl⟩⟩; refine ⟨_, rfl, ?_⟩))
      go_meet
      case rel => exact ⟨_, (true), (by first | rfl | (simp; done) | (simp [*]; done)), H', ⟨by first | omega | exact Nat.le_refl _⟩, ⟨by (with_reducible repeat (first | refine blk_drewN ?_ _ | refine blk_drew ?_ | refine blk_alloc ?_ _)); exact BK121.out⟩, ⟨by repeat (first | (with_reducible first | exact HB.out | apply below_alloc | apply pw_below_drewN | apply below_drew1 | refine below_set ?_ GE121.out) | exact HB.out)⟩⟩
  case rest =>
    clear HC2
    try clear c2
    try clear p2
    try clear c5
    try clear c6
    try clear c6b0
    try clear c7
    try clear hcz10_0
    try clear hcz10_1
    try clear hcz10_10
    try clear hcz10_11
    try clear hcz10_12
    try clear hcz10_13
    try clear hcz10_14
    try clear hcz10_15
    try clear hcz10_16
    try clear hcz10_2
    try clear hcz10_3
    try clear hcz10_4
    try clear hcz10_5
    try clear hcz10_6
    try clear hcz10_7
    try clear hcz10_8
    try clear hcz10_9
    try clear hcz8_0
    try clear hcz8_1
    try clear hcz8_10
    try clear hcz8_11
    try clear hcz8_12
    try clear hcz8_13
    try clear hcz8_14
    try clear hcz8_15
    try clear hcz8_16
    try clear hcz8_2
    try clear hcz8_3
    try clear hcz8_4
    try clear hcz8_5
    try clear hcz8_6
    try clear hcz8_7
    try clear hcz8_8
    try clear hcz8_9
    try clear hcz9_0
    try clear hcz9_1
    try clear hcz9_10
    try clear hcz9_11
    try clear hcz9_12
    try clear hcz9_13
    try clear hcz9_14
    try clear hcz9_15
    try clear hcz9_16
    try clear hcz9_2
    try clear hcz9_3
    try clear hcz9_4
    try clear hcz9_5
    try clear hcz9_6
    try clear hcz9_7
    try clear hcz9_8
    try clear hcz9_9
    try clear hfz10_0
    try clear hfz10_1
    try clear hfz10_10
    try clear hfz10_11
    try clear hfz10_12
    try clear hfz10_13
    try clear hfz10_14
    try clear hfz10_15
    try clear hfz10_16
    try clear hfz10_2
    try clear hfz10_3
    try clear hfz10_4
    try clear hfz10_5
    try clear hfz10_6
    try clear hfz10_7
    try clear hfz10_8
    try clear hfz10_9
    try clear hfz8_0
    try clear hfz8_1
    try clear hfz8_10
    try clear hfz8_11
    try clear hfz8_12
    try clear hfz8_13
    try clear hfz8_14
    try clear hfz8_15
    try clear hfz8_16
    try clear hfz8_2
    try clear hfz8_3
    try clear hfz8_4
    try clear hfz8_5
    try clear hfz8_6
    try clear hfz8_7
    try clear hfz8_8
    try clear hfz8_9
    try clear hfz9_0
    try clear hfz9_1
    try clear hfz9_10
    try clear hfz9_11
    try clear hfz9_12
    try clear hfz9_13
    try clear hfz9_14
    try clear hfz9_15
    try clear hfz9_16
    try clear hfz9_2
    try clear hfz9_3
    try clear hfz9_4
    try clear hfz9_5
    try clear hfz9_6
    try clear hfz9_7
    try clear hfz9_8
    try clear hfz9_9
    obtain ⟨kq, x18_1, rfl, HA, HJ1, BK121, HB⟩ := hcut
    cases kq with
    | zero => exact absurd HA.out (by simp [spec_OpOk.j0])
    | succ kj1 =>
      have H := HA.out
      clear HA
      simp only [spec_OpOk.j0] at H
      by_cases c11 : x18_1 = true
      · subst c11
        have H1 : (some false) = some r := by rw [if_pos rfl] at H; exact H
        clear H
        have H := H1
        clear H1
        obtain rfl := Option.some.inj H
        go_wp2
        go_ret
        exact ⟨by first | rfl | (simp [errW_none, errW_some] <;> rfl) | (simp [*, errW_none, errW_some] <;> rfl), by repeat (first | (with_reducible first | exact HB.out | apply below_alloc | apply pw_below_drewN | apply below_drew1 | refine below_set ?_ GE121.out) | exact HB.out)⟩
      · replace c11 := Bool.eq_false_iff.mpr c11
        subst c11
        have H1 : (if a0_0 ≥ 2 then (spec_OpOk.j1 kj1 (decide (a0_0 ≤ 6)) a0_0 a0_1 a0_2 a0_3 a0_4 a0_5 a0_6 l0_7 a0_8 a0_9 a0_10 l0_11 a0_12 a0_13 a0_14 l0_15 l0_16) else (spec_OpOk.j1 kj1 false a0_0 a0_1 a0_2 a0_3 a0_4 a0_5 a0_6 l0_7 a0_8 a0_9 a0_10 l0_11 a0_12 a0_13 a0_14 l0_15 l0_16)) = some r := by rw [if_neg (show ¬ (false = true) by decide)] at H; exact H
        clear H
        have H := H1
        clear H1
        have HC12 := Aside0.mk H
        clear H
        go_upto_region 3 with (fail)
        go_cut [3] (fun v3 wc => ∃ (kq : Nat) (x3_11 : Bool), v3 = .bool x3_11 ∧ Aside0 (spec_OpOk.j1 kq x3_11 a0_0 a0_1 a0_2 a0_3 a0_4 a0_5 a0_6 l0_7 a0_8 a0_9 a0_10 l0_11 a0_12 a0_13 a0_14 l0_15 l0_16 = some r) ∧ Aside0 (kq ≤ kj1) ∧ Aside0 (wc.heap[gb121]? = some (.cells #[.int .i64 a0_0, .int .i64 a0_1, .int .i64 a0_2, .int .i64 a0_3, .int .i64 a0_4, .int .i64 a0_5, .float .f64 a0_6, (.slice A0_7 l0_7.length c0_7), .int .i64 a0_8, .int .i64 a0_9, .float .f64 a0_10, (.slice A0_11 l0_11.length c0_11), .int .i64 a0_12, .int .i64 a0_13, .float .f64 a0_14, (.slice A0_15 l0_15.length c0_15), (.slice A0_16 l0_16.length c0_16)] 48 (0, 0))) ∧ Aside0 (Below w.heap.size w wc))
        case first =>
          have H := HC12.out
          clear HC12
          by_cases c13 : a0_0 ≥ 2
          · rw [if_pos c13] at H
            have c13b0 : decide (2 ≤ a0_0) = true := decide_eq_true c13
            clear c13
            (first | rw [c13b0] | (simp only [i64_w, i32_w]; rw [c13b0]) | skip)
            have H' := Aside0.mk H
            clear H
            have hcz14_0 : wc.cell? ⟨gb121, 0, none⟩ = some (.int .i64 a0_0) := (blk_cell BK121.out 0).trans rfl
            have hcz14_1 : wc.cell? ⟨gb121, 1, none⟩ = some (.int .i64 a0_1) := (blk_cell BK121.out 1).trans rfl
            have hcz14_2 : wc.cell? ⟨gb121, 2, none⟩ = some (.int .i64 a0_2) := (blk_cell BK121.out 2).trans rfl
            have hcz14_3 : wc.cell? ⟨gb121, 3, none⟩ = some (.int .i64 a0_3) := (blk_cell BK121.out 3).trans rfl
            have hcz14_4 : wc.cell? ⟨gb121, 4, none⟩ = some (.int .i64 a0_4) := (blk_cell BK121.out 4).trans rfl
            have hcz14_5 : wc.cell? ⟨gb121, 5, none⟩ = some (.int .i64 a0_5) := (blk_cell BK121.out 5).trans rfl
            have hcz14_6 : wc.cell? ⟨gb121, 6, none⟩ = some (.float .f64 a0_6) := (blk_cell BK121.out 6).trans rfl
            have hcz14_7 : wc.cell? ⟨gb121, 7, none⟩ = some (.slice A0_7 l0_7.length c0_7) := (blk_cell BK121.out 7).trans rfl
            have hcz14_8 : wc.cell? ⟨gb121, 8, none⟩ = some (.int .i64 a0_8) := (blk_cell BK121.out 8).trans rfl
            have hcz14_9 : wc.cell? ⟨gb121, 9, none⟩ = some (.int .i64 a0_9) := (blk_cell BK121.out 9).trans rfl
            have hcz14_10 : wc.cell? ⟨gb121, 10, none⟩ = some (.float .f64 a0_10) := (blk_cell BK121.out 10).trans rfl
            have hcz14_11 : wc.cell? ⟨gb121, 11, none⟩ = some (.slice A0_11 l0_11.length c0_11) := (blk_cell BK121.out 11).trans rfl
            have hcz14_12 : wc.cell? ⟨gb121, 12, none⟩ = some (.int .i64 a0_12) := (blk_cell BK121.out 12).trans rfl
            have hcz14_13 : wc.cell? ⟨gb121, 13, none⟩ = some (.int .i64 a0_13) := (blk_cell BK121.out 13).trans rfl
            have hcz14_14 : wc.cell? ⟨gb121, 14, none⟩ = some (.float .f64 a0_14) := (blk_cell BK121.out 14).trans rfl
            have hcz14_15 : wc.cell? ⟨gb121, 15, none⟩ = some (.slice A0_15 l0_15.length c0_15) := (blk_cell BK121.out 15).trans rfl
            have hcz14_16 : wc.cell? ⟨gb121, 16, none⟩ = some (.slice A0_16 l0_16.length c0_16) := (blk_cell BK121.out 16).trans rfl
            have hfz14_0 := blk_frozen BK121.out 0
            have hfz14_1 := blk_frozen BK121.out 1
            have hfz14_2 := blk_frozen BK121.out 2
            have hfz14_3 := blk_frozen BK121.out 3
            have hfz14_4 := blk_frozen BK121.out 4
            have hfz14_5 := blk_frozen BK121.out 5
            have hfz14_6 := blk_frozen BK121.out 6
            have hfz14_7 := blk_frozen BK121.out 7
            have hfz14_8 := blk_frozen BK121.out 8
            have hfz14_9 := blk_frozen BK121.out 9
            have hfz14_10 := blk_frozen BK121.out 10
            have hfz14_11 := blk_frozen BK121.out 11
            have hfz14_12 := blk_frozen BK121.out 12
            have hfz14_13 := blk_frozen BK121.out 13
            have hfz14_14 := blk_frozen BK121.out 14
            have hfz14_15 := blk_frozen BK121.out 15
            have hfz14_16 := blk_frozen BK121.out 16
            go_wp2
            go_meet
            case rel => exact ⟨_, (decide (a0_0 ≤ 6)), (by first | rfl | (simp; done) | (simp [*]; done)), H', ⟨by have := HJ1.out; first | omega | exact Nat.le_refl _⟩, ⟨by (with_reducible repeat (first | refine blk_drewN ?_ _ | refine blk_drew ?_ | refine blk_alloc ?_ _)); exact BK121.out⟩, ⟨by repeat (first | (with_reducible first | exact HB.out | apply below_alloc | apply pw_below_drewN | apply below_drew1 | refine below_set ?_ GE121.out) | exact HB.out)⟩⟩
          · rw [if_neg c13] at H
            have c13b0 : decide (2 ≤ a0_0) = false := decide_eq_false c13
            clear c13
            (first | rw [c13b0] | (simp only [i64_w, i32_w]; rw [c13b0]) | skip)
            have H' := Aside0.mk H
            clear H
            have hcz15_0 : wc.cell? ⟨gb121, 0, none⟩ = some (.int .i64 a0_0) := (blk_cell BK121.out 0).trans rfl
            have hcz15_1 : wc.cell? ⟨gb121, 1, none⟩ = some (.int .i64 a0_1) := (blk_cell BK121.out 1).trans rfl
            have hcz15_2 : wc.cell? ⟨gb121, 2, none⟩ = some (.int .i64 a0_2) := (blk_cell BK121.out 2).trans rfl
            have hcz15_3 : wc.cell? ⟨gb121, 3, none⟩ = some (.int .i64 a0_3) := (blk_cell BK121.out 3).trans rfl
            have hcz15_4 : wc.cell? ⟨gb121, 4, none⟩ = some (.int .i64 a0_4) := (blk_cell BK121.out 4).trans rfl
            have hcz15_5 : wc.cell? ⟨gb121, 5, none⟩ = some (.int .i64 a0_5) := (blk_cell BK121.out 5).trans rfl
            have hcz15_6 : wc.cell? ⟨gb121, 6, none⟩ = some (.float .f64 a0_6) := (blk_cell BK121.out 6).trans rfl
            have hcz15_7 : wc.cell? ⟨gb121, 7, none⟩ = some (.slice A0_7 l0_7.length c0_7) := (blk_cell BK121.out 7).trans rfl
            have hcz15_8 : wc.cell? ⟨gb121, 8, none⟩ = some (.int .i64 a0_8) := (blk_cell BK121.out 8).trans rfl
            have hcz15_9 : wc.cell? ⟨gb121, 9, none⟩ = some (.int .i64 a0_9) := (blk_cell BK121.out 9).trans rfl
            have hcz15_10 : wc.cell? ⟨gb121, 10, none⟩ = some (.float .f64 a0_10) := (blk_cell BK121.out 10).trans rfl
            have hcz15_11 : wc.cell? ⟨gb121, 11, none⟩ = some (.slice A0_11 l0_11.length c0_11) := (blk_cell BK121.out 11).trans rfl
            have hcz15_12 : wc.cell? ⟨gb121, 12, none⟩ = some (.int .i64 a0_12) := (blk_cell BK121.out 12).trans rfl
            have hcz15_13 : wc.cell? ⟨gb121, 13, none⟩ = some (.int .i64 a0_13) := (blk_cell BK121.out 13).trans rfl
            have hcz15_14 : wc.cell? ⟨gb121, 14, none⟩ = some (.float .f64 a0_14) := (blk_cell BK121.out 14).trans rfl
            have hcz15_15 : wc.cell? ⟨gb121, 15, none⟩ = some (.slice A0_15 l0_15.length c0_15) := (blk_cell BK121.out 15).trans rfl
            have hcz15_16 : wc.cell? ⟨gb121, 16, none⟩ = some (.slice A0_16 l0_16.length c0_16) := (blk_cell BK121.out 16).trans rfl
            have hfz15_0 := blk_frozen BK121.out 0
            have hfz15_1 := blk_frozen BK121.out 1
            have hfz15_2 := blk_frozen BK121.out 2
            have hfz15_3 := blk_frozen BK121.out 3
            have hfz15_4 := blk_frozen BK121.out 4
            have hfz15_5 := blk_frozen BK121.out 5
            have hfz15_6 := blk_frozen BK121.out 6
            have hfz15_7 := blk_frozen BK121.out 7
            have hfz15_8 := blk_frozen BK121.out 8
            have hfz15_9 := blk_frozen BK121.out 9
            have hfz15_10 := blk_frozen BK121.out 10
            have hfz15_11 := blk_frozen BK121.out 11
            have hfz15_12 := blk_frozen BK121.out 12
            have hfz15_13 := blk_frozen BK121.out 13
            have hfz15_14 := blk_frozen BK121.out 14
            have hfz15_15 := blk_frozen BK121.out 15
            have hfz15_16 := blk_frozen BK121.out 16
            go_wp2
            go_meet
            case rel => exact ⟨_, (false), (by first | rfl | (simp; done) | (simp [*]; done)), H', ⟨by have := HJ1.out; first | omega | exact Nat.le_refl _⟩, ⟨by (with_reducible repeat (first | refine blk_drewN ?_ _ | refine blk_drew ?_ | refine blk_alloc ?_ _)); exact BK121.out⟩, ⟨by repeat (first | (with_reducible first | exact HB.out | apply below_alloc | apply pw_below_drewN | apply below_drew1 | refine below_set ?_ GE121.out) | exact HB.out)⟩⟩
        case rest =>
          clear HC12
          try clear c1
          try clear c2
          try clear p2
          try clear c5
          try clear c6
          try clear c6b0
          try clear c7
          try clear c11
          try clear c13
          try clear c13b0
          try clear hcz10_0
          try clear hcz10_1
          try clear hcz10_10
          try clear hcz10_11
          try clear hcz10_12
          try clear hcz10_13
          try clear hcz10_14
          try clear hcz10_15
          try clear hcz10_16
          try clear hcz10_2
          try clear hcz10_3
          try clear hcz10_4
          try clear hcz10_5
          try clear hcz10_6
          try clear hcz10_7
          try clear hcz10_8
          try clear hcz10_9
          try clear hcz14_0
          try clear hcz14_1
          try clear hcz14_10
          try clear hcz14_11
          try clear hcz14_12
          try clear hcz14_13
          try clear hcz14_14
          try clear hcz14_15
          try clear hcz14_16
          try clear hcz14_2
          try clear hcz14_3
          try clear hcz14_4
          try clear hcz14_5
          try clear hcz14_6
          try clear hcz14_7
          try clear hcz14_8
          try clear hcz14_9
          try clear hcz15_0
          try clear hcz15_1
          try clear hcz15_10
          try clear hcz15_11
          try clear hcz15_12
          try clear hcz15_13
          try clear hcz15_14
          try clear hcz15_15
          try clear hcz15_16
          try clear hcz15_2
          try clear hcz15_3
          try clear hcz15_4
          try clear hcz15_5
          try clear hcz15_6
          try clear hcz15_7
          try clear hcz15_8
          try clear hcz15_9
          try clear hcz8_0
          try clear hcz8_1
          try clear hcz8_10
          try clear hcz8_11
          try clear hcz8_12
          try clear hcz8_13
          try clear hcz8_14
          try clear hcz8_15
          try clear hcz8_16
          try clear hcz8_2
          try clear hcz8_3
          try clear hcz8_4
          try clear hcz8_5
          try clear hcz8_6
          try clear hcz8_7
          try clear hcz8_8
          try clear hcz8_9
          try clear hcz9_0
          try clear hcz9_1
          try clear hcz9_10
          try clear hcz9_11
          try clear hcz9_12
          try clear hcz9_13
          try clear hcz9_14
          try clear hcz9_15
          try clear hcz9_16
          try clear hcz9_2
          try clear hcz9_3
          try clear hcz9_4
          try clear hcz9_5
          try clear hcz9_6
          try clear hcz9_7
          try clear hcz9_8
          try clear hcz9_9
          try clear hfz10_0
          try clear hfz10_1
          try clear hfz10_10
          try clear hfz10_11
          try clear hfz10_12
          try clear hfz10_13
          try clear hfz10_14
          try clear hfz10_15
          try clear hfz10_16
          try clear hfz10_2
          try clear hfz10_3
          try clear hfz10_4
          try clear hfz10_5
          try clear hfz10_6
          try clear hfz10_7
          try clear hfz10_8
          try clear hfz10_9
          try clear hfz14_0
          try clear hfz14_1
          try clear hfz14_10
          try clear hfz14_11
          try clear hfz14_12
          try clear hfz14_13
          try clear hfz14_14
          try clear hfz14_15
          try clear hfz14_16
          try clear hfz14_2
          try clear hfz14_3
          try clear hfz14_4
          try clear hfz14_5
          try clear hfz14_6
          try clear hfz14_7
          try clear hfz14_8
          try clear hfz14_9
          try clear hfz15_0
          try clear hfz15_1
          try clear hfz15_10
          try clear hfz15_11
          try clear hfz15_12
          try clear hfz15_13
          try clear hfz15_14
          try clear hfz15_15
          try clear hfz15_16
          try clear hfz15_2
          try clear hfz15_3
          try clear hfz15_4
          try clear hfz15_5
          try clear hfz15_6
          try clear hfz15_7
          try clear hfz15_8
          try clear hfz15_9
          try clear hfz8_0
          try clear hfz8_1
          try clear hfz8_10
          try clear hfz8_11
          try clear hfz8_12
          try clear hfz8_13
          try clear hfz8_14
          try clear hfz8_15
          try clear hfz8_16
          try clear hfz8_2
          try clear hfz8_3
          try clear hfz8_4
          try clear hfz8_5
          try clear hfz8_6
          try clear hfz8_7
          try clear hfz8_8
          try clear hfz8_9
          try clear hfz9_0
          try clear hfz9_1
          try clear hfz9_10
          try clear hfz9_11
          try clear hfz9_12
          try clear hfz9_13
          try clear hfz9_14
          try clear hfz9_15
          try clear hfz9_16
          try clear hfz9_2
          try clear hfz9_3
          try clear hfz9_4
          try clear hfz9_5
          try clear hfz9_6
          try clear hfz9_7
          try clear hfz9_8
          try clear hfz9_9
          try clear p2
          obtain ⟨kq, x3_11, rfl, HA, HJ11, BK121, HB⟩ := hcut
          cases kq with
          | zero => exact absurd HA.out (by simp [spec_OpOk.j1])
          | succ kj11 =>
            have H := HA.out
            clear HA
            simp only [spec_OpOk.j1] at H
            have HC16 := Aside0.mk H
            clear H
            go_upto_region 4 with (fail)
            go_cut [34] (fun v34 wc => ∃ (kq : Nat) (x34_15 : Bool), v34 = .bool x34_15 ∧ Aside0 (spec_OpOk.j2 kq x34_15 a0_0 a0_1 a0_2 a0_3 a0_4 a0_5 a0_6 l0_7 a0_8 a0_9 a0_10 l0_11 a0_12 a0_13 a0_14 l0_15 l0_16 = some r) ∧ Aside0 (kq ≤ kj11) ∧ Aside0 (wc.heap[gb121]? = some (.cells #[.int .i64 a0_0, .int .i64 a0_1, .int .i64 a0_2, .int .i64 a0_3, .int .i64 a0_4, .int .i64 a0_5, .float .f64 a0_6, (.slice A0_7 l0_7.length c0_7), .int .i64 a0_8, .int .i64 a0_9, .float .f64 a0_10, (.slice A0_11 l0_11.length c0_11), .int .i64 a0_12, .int .i64 a0_13, .float .f64 a0_14, (.slice A0_15 l0_15.length c0_15), (.slice A0_16 l0_16.length c0_16)] 48 (0, 0))) ∧ Aside0 (Below w.heap.size w wc))
            case first =>
              have H := HC16.out
              clear HC16
              by_cases c17 : x3_11 = true
              · subst c17
                have H1 : ((spec_ItemClean.f kj11 a0_4 a0_5 a0_6 l0_7).bind fun bt124 => ((spec_KeyOk.f kj11 bt124.1 bt124.2.1 bt124.2.2.1 bt124.2.2.2).bind fun t130 => (spec_OpOk.j2 kj11 (!t130) a0_0 a0_1 a0_2 a0_3 a0_4 a0_5 a0_6 l0_7 a0_8 a0_9 a0_10 l0_11 a0_12 a0_13 a0_14 l0_15 l0_16))) = some r := by rw [if_pos rfl] at H; exact H
                clear H
                have H := H1
                clear H1
                replace H := Option.bind_eq_some_iff.mp H
                obtain ⟨⟨t124, t125, t126, t127⟩, A180, H⟩ := H
                replace H : ((spec_KeyOk.f kj11 t124 t125 t126 t127).bind fun t130 => (spec_OpOk.j2 kj11 (!t130) a0_0 a0_1 a0_2 a0_3 a0_4 a0_5 a0_6 l0_7 a0_8 a0_9 a0_10 l0_11 a0_12 a0_13 a0_14 l0_15 l0_16)) = some r := H
                have A18 := Aside0.mk A180
                clear A180
                replace H := Option.bind_eq_some_iff.mp H
                obtain ⟨t130, A190, H⟩ := H
                replace H : (spec_OpOk.j2 kj11 (!t130) a0_0 a0_1 a0_2 a0_3 a0_4 a0_5 a0_6 l0_7 a0_8 a0_9 a0_10 l0_11 a0_12 a0_13 a0_14 l0_15 l0_16) = some r := H
                have A19 := Aside0.mk A190
                clear A190
                have H' := Aside0.mk H
                clear H
                have hcz20_0 : wc.cell? ⟨gb121, 0, none⟩ = some (.int .i64 a0_0) := (blk_cell BK121.out 0).trans rfl
                have hcz20_1 : wc.cell? ⟨gb121, 1, none⟩ = some (.int .i64 a0_1) := (blk_cell BK121.out 1).trans rfl
                have hcz20_2 : wc.cell? ⟨gb121, 2, none⟩ = some (.int .i64 a0_2) := (blk_cell BK121.out 2).trans rfl
                have hcz20_3 : wc.cell? ⟨gb121, 3, none⟩ = some (.int .i64 a0_3) := (blk_cell BK121.out 3).trans rfl
                have hcz20_4 : wc.cell? ⟨gb121, 4, none⟩ = some (.int .i64 a0_4) := (blk_cell BK121.out 4).trans rfl
                have hcz20_5 : wc.cell? ⟨gb121, 5, none⟩ = some (.int .i64 a0_5) := (blk_cell BK121.out 5).trans rfl
                have hcz20_6 : wc.cell? ⟨gb121, 6, none⟩ = some (.float .f64 a0_6) := (blk_cell BK121.out 6).trans rfl
                have hcz20_7 : wc.cell? ⟨gb121, 7, none⟩ = some (.slice A0_7 l0_7.length c0_7) := (blk_cell BK121.out 7).trans rfl
                have hcz20_8 : wc.cell? ⟨gb121, 8, none⟩ = some (.int .i64 a0_8) := (blk_cell BK121.out 8).trans rfl
                have hcz20_9 : wc.cell? ⟨gb121, 9, none⟩ = some (.int .i64 a0_9) := (blk_cell BK121.out 9).trans rfl
                have hcz20_10 : wc.cell? ⟨gb121, 10, none⟩ = some (.float .f64 a0_10) := (blk_cell BK121.out 10).trans rfl
                have hcz20_11 : wc.cell? ⟨gb121, 11, none⟩ = some (.slice A0_11 l0_11.length c0_11) := (blk_cell BK121.out 11).trans rfl
                have hcz20_12 : wc.cell? ⟨gb121, 12, none⟩ = some (.int .i64 a0_12) := (blk_cell BK121.out 12).trans rfl
                have hcz20_13 : wc.cell? ⟨gb121, 13, none⟩ = some (.int .i64 a0_13) := (blk_cell BK121.out 13).trans rfl
                have hcz20_14 : wc.cell? ⟨gb121, 14, none⟩ = some (.float .f64 a0_14) := (blk_cell BK121.out 14).trans rfl
                have hcz20_15 : wc.cell? ⟨gb121, 15, none⟩ = some (.slice A0_15 l0_15.length c0_15) := (blk_cell BK121.out 15).trans rfl
                have hcz20_16 : wc.cell? ⟨gb121, 16, none⟩ = some (.slice A0_16 l0_16.length c0_16) := (blk_cell BK121.out 16).trans rfl
                have hfz20_0 := blk_frozen BK121.out 0
                have hfz20_1 := blk_frozen BK121.out 1
                have hfz20_2 := blk_frozen BK121.out 2
                have hfz20_3 := blk_frozen BK121.out 3
                have hfz20_4 := blk_frozen BK121.out 4
                have hfz20_5 := blk_frozen BK121.out 5
                have hfz20_6 := blk_frozen BK121.out 6
                have hfz20_7 := blk_frozen BK121.out 7
                have hfz20_8 := blk_frozen BK121.out 8
                have hfz20_9 := blk_frozen BK121.out 9
                have hfz20_10 := blk_frozen BK121.out 10
                have hfz20_11 := blk_frozen BK121.out 11
                have hfz20_12 := blk_frozen BK121.out 12
                have hfz20_13 := blk_frozen BK121.out 13
                have hfz20_14 := blk_frozen BK121.out 14
                have hfz20_15 := blk_frozen BK121.out 15
                have hfz20_16 := blk_frozen BK121.out 16
                go_wp2_with (first | (go_at_call 14; (with_reducible refine (spec_ItemClean.calls kj11 a0_4 a0_5 a0_6 _ _ l0_7 t124 t125 t126 t127 _ ?side1 ?side2 A18.out).mono ?_); (case side1 => repeat (first | exact (Kd.C_below HR0_7.out HB.out) | (with_reducible refine Kd.C_alloc ?_ _) | (with_reducible refine Kd.C_drewN ?_ _) | (with_reducible refine Kd.C_drew ?_))); (case side2 => exact HC0_7.out); rintro e w21 ⟨v128, rfl, ho0, hb⟩; have n0_ := Aside0.mk (Kd.R_lower ho0 (below_size (by repeat (first | (with_reducible first | exact HB.out | apply below_alloc | apply pw_below_drewN | apply below_drew1 | refine below_set ?_ GE121.out) | exact HB.out)))); have n1_ := Aside0.mk (blk_below (g := gb121) (o := .cells #[.int .i64 a0_0, .int .i64 a0_1, .int .i64 a0_2, .int .i64 a0_3, .int .i64 a0_4, .int .i64 a0_5, .float .f64 a0_6, .slice A0_7 l0_7.length c0_7, .int .i64 a0_8, .int .i64 a0_9, .float .f64 a0_10, .slice A0_11 l0_11.length c0_11, .int .i64 a0_12, .int .i64 a0_13, .float .f64 a0_14, .slice A0_15 l0_15.length c0_15, .slice A0_16 l0_16.length c0_16] 48 (0, 0)) (by (with_reducible repeat (first | refine blk_drewN ?_ _ | refine blk_drew ?_ | refine blk_alloc ?_ _)); exact BK121.out) hb); have n2_ := Aside0.mk (below_step (by repeat (first | (with_reducible first | exact HB.out | apply below_alloc | apply pw_below_drewN | apply below_drew1 | refine below_set ?_ GE121.out) | exact HB.out)) hb); clear BK121; clear HB; have HO129 := n0_; have BK121 := n1_; have HB := n2_; clear n0_ n1_ n2_; (try clear hb); (try clear hb2); (try clear hk); (try clear hi); (try clear ho0); obtain ⟨Ao22, co22, eo22⟩ := Kd.R_slice HO129.out; subst eo22) | (go_at_call 70; (with_reducible refine (spec_KeyOk.calls kj11 t124 t125 t126 _ _ t127 t130 _ ?side1 ?side2 A19.out).mono ?_); (case side1 => repeat (first | exact (Kd.R_reads' HO129.out).2.2 | (with_reducible refine Kd.C_alloc ?_ _) | (with_reducible refine Kd.C_drewN ?_ _) | (with_reducible refine Kd.C_drew ?_))); (case side2 => exact (Kd.R_reads' HO129.out).2.1); rintro e w23 ⟨rfl, hb⟩; have n0_ := Aside0.mk (Kd.R_below (by (with_reducible repeat (first | apply Kd.R_alloc | apply Kd.R_drewN | apply Kd.R_drew)); exact HO129.out) hb); have n1_ := Aside0.mk (blk_below (g := gb121) (o := .cells #[.int .i64 a0_0, .int .i64 a0_1, .int .i64 a0_2, .int .i64 a0_3, .int .i64 a0_4, .int .i64 a0_5, .float .f64 a0_6, .slice A0_7 l0_7.length c0_7, .int .i64 a0_8, .int .i64 a0_9, .float .f64 a0_10, .slice A0_11 l0_11.length c0_11, .int .i64 a0_12, .int .i64 a0_13, .float .f64 a0_14, .slice A0_15 l0_15.length c0_15, .slice A0_16 l0_16.length c0_16] 48 (0, 0)) (by (with_reducible repeat (first | refine blk_drewN ?_ _ | refine blk_drew ?_ | refine blk_alloc ?_ _)); exact BK121.out) hb); have n2_ := Aside0.mk (below_step (by repeat (first | (with_reducible first | exact HB.out | apply below_alloc | apply pw_below_drewN | apply below_drew1 | refine below_set ?_ GE121.out) | exact HB.out)) hb); clear HO129; clear BK121; clear HB; have HO129 := n0_; have BK121 := n1_; have HB := n2_; clear n0_ n1_ n2_; (try clear hb); (try clear hb2); (try clear hk); (try clear hi)))
                go_meet
                case rel => exact ⟨_, (!t130), (by first | rfl | (simp; done) | (simp [*]; done)), H', ⟨by have := HJ1.out; have := HJ11.out; first | omega | exact Nat.le_refl _⟩, ⟨by (with_reducible repeat (first | refine blk_drewN ?_ _ | refine blk_drew ?_ | refine blk_alloc ?_ _)); exact BK121.out⟩, ⟨by repeat (first | (with_reducible first | exact HB.out | apply below_alloc | apply pw_below_drewN | apply below_drew1 | refine below_set ?_ GE121.out) | exact HB.out)⟩⟩
              · replace c17 := Bool.eq_false_iff.mpr c17
                subst c17
                have H1 : (spec_OpOk.j2 kj11 false a0_0 a0_1 a0_2 a0_3 a0_4 a0_5 a0_6 l0_7 a0_8 a0_9 a0_10 l0_11 a0_12 a0_13 a0_14 l0_15 l0_16) = some r := by rw [if_neg (show ¬ (false = true) by decide)] at H; exact H
                clear H
                have H := H1
                clear H1
                have H' := Aside0.mk H
                clear H
                go_wp2
                go_meet
                case rel => exact ⟨_, (false), (by first | rfl | (simp; done) | (simp [*]; done)), H', ⟨by have := HJ1.out; have := HJ11.out; first | omega | exact Nat.le_refl _⟩, ⟨by (with_reducible repeat (first | refine blk_drewN ?_ _ | refine blk_drew ?_ | refine blk_alloc ?_ _)); exact BK121.out⟩, ⟨by repeat (first | (with_reducible first | exact HB.out | apply below_alloc | apply pw_below_drewN | apply below_drew1 | refine below_set ?_ GE121.out) | exact HB.out)⟩⟩
            case rest =>
              clear HC16
              try clear c1
              try clear c2
              try clear p2
              try clear c5
              try clear c6
              try clear c6b0
              try clear c7
              try clear c11
              try clear c13
              try clear c13b0
              try clear c17
              try clear hcz10_0
              try clear hcz10_1
              try clear hcz10_10
              try clear hcz10_11
              try clear hcz10_12
              try clear hcz10_13
              try clear hcz10_14
              try clear hcz10_15
              try clear hcz10_16
              try clear hcz10_2
              try clear hcz10_3
              try clear hcz10_4
              try clear hcz10_5
              try clear hcz10_6
              try clear hcz10_7
              try clear hcz10_8
              try clear hcz10_9
              try clear hcz14_0
              try clear hcz14_1
              try clear hcz14_10
              try clear hcz14_11
              try clear hcz14_12
              try clear hcz14_13
              try clear hcz14_14
              try clear hcz14_15
              try clear hcz14_16
              try clear hcz14_2
              try clear hcz14_3
              try clear hcz14_4
              try clear hcz14_5
              try clear hcz14_6
              try clear hcz14_7
              try clear hcz14_8
              try clear hcz14_9
              try clear hcz15_0
              try clear hcz15_1
              try clear hcz15_10
              try clear hcz15_11
              try clear hcz15_12
              try clear hcz15_13
              try clear hcz15_14
              try clear hcz15_15
              try clear hcz15_16
              try clear hcz15_2
              try clear hcz15_3
              try clear hcz15_4
              try clear hcz15_5
              try clear hcz15_6
              try clear hcz15_7
              try clear hcz15_8
              try clear hcz15_9
              try clear hcz20_0
              try clear hcz20_1
              try clear hcz20_10
              try clear hcz20_11
              try clear hcz20_12
              try clear hcz20_13
              try clear hcz20_14
              try clear hcz20_15
              try clear hcz20_16
              try clear hcz20_2
              try clear hcz20_3
              try clear hcz20_4
              try clear hcz20_5
              try clear hcz20_6
              try clear hcz20_7
              try clear hcz20_8
              try clear hcz20_9
              try clear hcz8_0
              try clear hcz8_1
              try clear hcz8_10
              try clear hcz8_11
              try clear hcz8_12
              try clear hcz8_13
              try clear hcz8_14
              try clear hcz8_15
              try clear hcz8_16
              try clear hcz8_2
              try clear hcz8_3
              try clear hcz8_4
              try clear hcz8_5
              try clear hcz8_6
              try clear hcz8_7
              try clear hcz8_8
              try clear hcz8_9
              try clear hcz9_0
              try clear hcz9_1
              try clear hcz9_10
              try clear hcz9_11
              try clear hcz9_12
              try clear hcz9_13
              try clear hcz9_14
              try clear hcz9_15
              try clear hcz9_16
              try clear hcz9_2
              try clear hcz9_3
              try clear hcz9_4
              try clear hcz9_5
              try clear hcz9_6
              try clear hcz9_7
              try clear hcz9_8
              try clear hcz9_9
              try clear hfz10_0
              try clear hfz10_1
              try clear hfz10_10
              try clear hfz10_11
              try clear hfz10_12
              try clear hfz10_13
              try clear hfz10_14
              try clear hfz10_15
              try clear hfz10_16
              try clear hfz10_2
              try clear hfz10_3
              try clear hfz10_4
              try clear hfz10_5
              try clear hfz10_6
              try clear hfz10_7
              try clear hfz10_8
              try clear hfz10_9
              try clear hfz14_0
              try clear hfz14_1
              try clear hfz14_10
              try clear hfz14_11
              try clear hfz14_12
              try clear hfz14_13
              try clear hfz14_14
              try clear hfz14_15
              try clear hfz14_16
              try clear hfz14_2
              try clear hfz14_3
              try clear hfz14_4
              try clear hfz14_5
              try clear hfz14_6
              try clear hfz14_7
              try clear hfz14_8
              try clear hfz14_9
              try clear hfz15_0
              try clear hfz15_1
              try clear hfz15_10
              try clear hfz15_11
              try clear hfz15_12
              try clear hfz15_13
              try clear hfz15_14
              try clear hfz15_15
              try clear hfz15_16
              try clear hfz15_2
              try clear hfz15_3
              try clear hfz15_4
              try clear hfz15_5
              try clear hfz15_6
              try clear hfz15_7
              try clear hfz15_8
              try clear hfz15_9
              try clear hfz20_0
              try clear hfz20_1
              try clear hfz20_10
              try clear hfz20_11
              try clear hfz20_12
              try clear hfz20_13
              try clear hfz20_14
              try clear hfz20_15
              try clear hfz20_16
              try clear hfz20_2
              try clear hfz20_3
              try clear hfz20_4
              try clear hfz20_5
              try clear hfz20_6
              try clear hfz20_7
              try clear hfz20_8
              try clear hfz20_9
              try clear hfz8_0
              try clear hfz8_1
              try clear hfz8_10
              try clear hfz8_11
              try clear hfz8_12
              try clear hfz8_13
              try clear hfz8_14
              try clear hfz8_15
              try clear hfz8_16
              try clear hfz8_2
              try clear hfz8_3
              try clear hfz8_4
              try clear hfz8_5
              try clear hfz8_6
              try clear hfz8_7
              try clear hfz8_8
              try clear hfz8_9
              try clear hfz9_0
              try clear hfz9_1
              try clear hfz9_10
              try clear hfz9_11
              try clear hfz9_12
              try clear hfz9_13
              try clear hfz9_14
              try clear hfz9_15
              try clear hfz9_16
              try clear hfz9_2
              try clear hfz9_3
              try clear hfz9_4
              try clear hfz9_5
              try clear hfz9_6
              try clear hfz9_7
              try clear hfz9_8
              try clear hfz9_9
              try clear p2
              obtain ⟨kq, x34_15, rfl, HA, HJ15, BK121, HB⟩ := hcut
              cases kq with
              | zero => exact absurd HA.out (by simp [spec_OpOk.j2])
              | succ kj15 =>
                have H := HA.out
                clear HA
                simp only [spec_OpOk.j2] at H
                by_cases c24 : x34_15 = true
                · subst c24
                  have H1 : (some false) = some r := by rw [if_pos rfl] at H; exact H
                  clear H
                  have H := H1
                  clear H1
                  obtain rfl := Option.some.inj H
                  go_wp2
                  go_ret
                  exact ⟨by first | rfl | (simp [errW_none, errW_some] <;> rfl) | (simp [*, errW_none, errW_some] <;> rfl), by repeat (first | (with_reducible first | exact HB.out | apply below_alloc | apply pw_below_drewN | apply below_drew1 | refine below_set ?_ GE121.out) | exact HB.out)⟩
                · replace c24 := Bool.eq_false_iff.mpr c24
                  subst c24
                  have H1 : (if a0_0 = 1 then ((spec_l5in.f a0_2 0 1).bind fun t131 => (some t131)) else (if a0_0 = 3 then ((spec_ItemOk.f kj15 a0_12 a0_13 a0_14 l0_15).bind fun t132 => (if t132 = true then (some (a0_12 != 0)) else (some false))) else (if a0_0 = 5 then ((spec_ItemClean.f kj15 a0_8 a0_9 a0_10 l0_11).bind fun bt133 => ((spec_KeyOk.f kj15 bt133.1 bt133.2.1 bt133.2.2.1 bt133.2.2.2).bind fun t139 => (if t139 = true then ((spec_l5in.f a0_3 0 50).bind fun t140 => (some t140)) else (some false)))) else (if a0_0 = 6 then ((spec_ItemClean.f kj15 a0_8 a0_9 a0_10 l0_11).bind fun bt141 => ((spec_KeyOk.f kj15 bt141.1 bt141.2.1 bt141.2.2.1 bt141.2.2.2).bind fun t147 => (some t147))) else (if a0_0 = 11 then ((spec_l5in.f a0_3 0 15).bind fun t148 => (some t148)) else (if a0_0 = 12 then (some (decide (a0_3 ≥ 0))) else (if a0_0 = 13 then (some (decide ((l0_16.length : Int) ≤ 600))) else (some true)))))))) = some r := by rw [if_neg (show ¬ (false = true) by decide)] at H; exact H
                  clear H
                  have H := H1
                  clear H1
                  by_cases c25 : a0_0 = 1
                  · rw [if_pos c25] at H
                    have c25b0 : (a0_0 == 1) = true := beq_iff_eq.mpr c25
                    have c25b1 : (a0_0 != 1) = false := bne_eq_false_iff_eq.mpr c25
                    clear c25
                    replace H := Option.bind_eq_some_iff.mp H
                    obtain ⟨t131, A260, H⟩ := H
                    replace H : (some t131) = some r := H
                    have A26 := Aside0.mk A260
                    clear A260
                    obtain rfl := Option.some.inj H
                    have hcz27_0 : wc.cell? ⟨gb121, 0, none⟩ = some (.int .i64 a0_0) := (blk_cell BK121.out 0).trans rfl
                    have hcz27_1 : wc.cell? ⟨gb121, 1, none⟩ = some (.int .i64 a0_1) := (blk_cell BK121.out 1).trans rfl
                    have hcz27_2 : wc.cell? ⟨gb121, 2, none⟩ = some (.int .i64 a0_2) := (blk_cell BK121.out 2).trans rfl
                    have hcz27_3 : wc.cell? ⟨gb121, 3, none⟩ = some (.int .i64 a0_3) := (blk_cell BK121.out 3).trans rfl
                    have hcz27_4 : wc.cell? ⟨gb121, 4, none⟩ = some (.int .i64 a0_4) := (blk_cell BK121.out 4).trans rfl
                    have hcz27_5 : wc.cell? ⟨gb121, 5, none⟩ = some (.int .i64 a0_5) := (blk_cell BK121.out 5).trans rfl
                    have hcz27_6 : wc.cell? ⟨gb121, 6, none⟩ = some (.float .f64 a0_6) := (blk_cell BK121.out 6).trans rfl
                    have hcz27_7 : wc.cell? ⟨gb121, 7, none⟩ = some (.slice A0_7 l0_7.length c0_7) := (blk_cell BK121.out 7).trans rfl
                    have hcz27_8 : wc.cell? ⟨gb121, 8, none⟩ = some (.int .i64 a0_8) := (blk_cell BK121.out 8).trans rfl
                    have hcz27_9 : wc.cell? ⟨gb121, 9, none⟩ = some (.int .i64 a0_9) := (blk_cell BK121.out 9).trans rfl
                    have hcz27_10 : wc.cell? ⟨gb121, 10, none⟩ = some (.float .f64 a0_10) := (blk_cell BK121.out 10).trans rfl
                    have hcz27_11 : wc.cell? ⟨gb121, 11, none⟩ = some (.slice A0_11 l0_11.length c0_11) := (blk_cell BK121.out 11).trans rfl
                    have hcz27_12 : wc.cell? ⟨gb121, 12, none⟩ = some (.int .i64 a0_12) := (blk_cell BK121.out 12).trans rfl
                    have hcz27_13 : wc.cell? ⟨gb121, 13, none⟩ = some (.int .i64 a0_13) := (blk_cell BK121.out 13).trans rfl
                    have hcz27_14 : wc.cell? ⟨gb121, 14, none⟩ = some (.float .f64 a0_14) := (blk_cell BK121.out 14).trans rfl
                    have hcz27_15 : wc.cell? ⟨gb121, 15, none⟩ = some (.slice A0_15 l0_15.length c0_15) := (blk_cell BK121.out 15).trans rfl
                    have hcz27_16 : wc.cell? ⟨gb121, 16, none⟩ = some (.slice A0_16 l0_16.length c0_16) := (blk_cell BK121.out 16).trans rfl
                    have hfz27_0 := blk_frozen BK121.out 0
                    have hfz27_1 := blk_frozen BK121.out 1
                    have hfz27_2 := blk_frozen BK121.out 2
                    have hfz27_3 := blk_frozen BK121.out 3
                    have hfz27_4 := blk_frozen BK121.out 4
                    have hfz27_5 := blk_frozen BK121.out 5
                    have hfz27_6 := blk_frozen BK121.out 6
                    have hfz27_7 := blk_frozen BK121.out 7
                    have hfz27_8 := blk_frozen BK121.out 8
                    have hfz27_9 := blk_frozen BK121.out 9
                    have hfz27_10 := blk_frozen BK121.out 10
                    have hfz27_11 := blk_frozen BK121.out 11
                    have hfz27_12 := blk_frozen BK121.out 12
                    have hfz27_13 := blk_frozen BK121.out 13
                    have hfz27_14 := blk_frozen BK121.out 14
                    have hfz27_15 := blk_frozen BK121.out 15
                    have hfz27_16 := blk_frozen BK121.out 16
                    go_wp2_with (first | ((with_reducible refine gate_callee (f := 75) rfl ?_); refine goesL_ (some 41) rfl rfl Try.func75 (by kernel_rfl) rfl #[.int .i64 a0_2, .int .i64 0, .int .i64 1] rfl (by (try simp only [List.map_toArray, List.map_cons, List.map_nil]); first | done | rfl | (simp only [List.length_drop, List.length_take]; rfl)) ?_; (with_reducible refine (spec_l5in.calls a0_2 0 1 t131 _ A26.out).mono ?_); rintro e w' ⟨rfl, ⟨nd, rfl⟩⟩; refine ⟨_, rfl, ?_⟩))
                    go_ret
                    exact ⟨by first | rfl | (simp [errW_none, errW_some] <;> rfl) | (simp [*, errW_none, errW_some] <;> rfl), by repeat (first | (with_reducible first | exact HB.out | apply below_alloc | apply pw_below_drewN | apply below_drew1 | refine below_set ?_ GE121.out) | exact HB.out)⟩
                  · rw [if_neg c25] at H
                    have c25b0 : (a0_0 == 1) = false := beq_eq_false_iff_ne.mpr c25
                    have c25b1 : (a0_0 != 1) = true := bne_iff_ne.mpr c25
                    by_cases c28 : a0_0 = 3
                    · rw [if_pos c28] at H
                      have c28b0 : (a0_0 == 3) = true := beq_iff_eq.mpr c28
                      have c28b1 : (a0_0 != 3) = false := bne_eq_false_iff_eq.mpr c28
                      clear c28
                      replace H := Option.bind_eq_some_iff.mp H
                      obtain ⟨t132, A290, H⟩ := H
                      replace H : (if t132 = true then (some (a0_12 != 0)) else (some false)) = some r := H
                      have A29 := Aside0.mk A290
                      clear A290
                      by_cases c30 : t132 = true
                      · subst c30
                        have H1 : (some (a0_12 != 0)) = some r := by rw [if_pos rfl] at H; exact H
                        clear H
                        have H := H1
                        clear H1
                        obtain rfl := Option.some.inj H
                        have hcz31_0 : wc.cell? ⟨gb121, 0, none⟩ = some (.int .i64 a0_0) := (blk_cell BK121.out 0).trans rfl
                        have hcz31_1 : wc.cell? ⟨gb121, 1, none⟩ = some (.int .i64 a0_1) := (blk_cell BK121.out 1).trans rfl
                        have hcz31_2 : wc.cell? ⟨gb121, 2, none⟩ = some (.int .i64 a0_2) := (blk_cell BK121.out 2).trans rfl
                        have hcz31_3 : wc.cell? ⟨gb121, 3, none⟩ = some (.int .i64 a0_3) := (blk_cell BK121.out 3).trans rfl
                        have hcz31_4 : wc.cell? ⟨gb121, 4, none⟩ = some (.int .i64 a0_4) := (blk_cell BK121.out 4).trans rfl
                        have hcz31_5 : wc.cell? ⟨gb121, 5, none⟩ = some (.int .i64 a0_5) := (blk_cell BK121.out 5).trans rfl
                        have hcz31_6 : wc.cell? ⟨gb121, 6, none⟩ = some (.float .f64 a0_6) := (blk_cell BK121.out 6).trans rfl
                        have hcz31_7 : wc.cell? ⟨gb121, 7, none⟩ = some (.slice A0_7 l0_7.length c0_7) := (blk_cell BK121.out 7).trans rfl
                        have hcz31_8 : wc.cell? ⟨gb121, 8, none⟩ = some (.int .i64 a0_8) := (blk_cell BK121.out 8).trans rfl
                        have hcz31_9 : wc.cell? ⟨gb121, 9, none⟩ = some (.int .i64 a0_9) := (blk_cell BK121.out 9).trans rfl
                        have hcz31_10 : wc.cell? ⟨gb121, 10, none⟩ = some (.float .f64 a0_10) := (blk_cell BK121.out 10).trans rfl
                        have hcz31_11 : wc.cell? ⟨gb121, 11, none⟩ = some (.slice A0_11 l0_11.length c0_11) := (blk_cell BK121.out 11).trans rfl
                        have hcz31_12 : wc.cell? ⟨gb121, 12, none⟩ = some (.int .i64 a0_12) := (blk_cell BK121.out 12).trans rfl
                        have hcz31_13 : wc.cell? ⟨gb121, 13, none⟩ = some (.int .i64 a0_13) := (blk_cell BK121.out 13).trans rfl
                        have hcz31_14 : wc.cell? ⟨gb121, 14, none⟩ = some (.float .f64 a0_14) := (blk_cell BK121.out 14).trans rfl
                        have hcz31_15 : wc.cell? ⟨gb121, 15, none⟩ = some (.slice A0_15 l0_15.length c0_15) := (blk_cell BK121.out 15).trans rfl
                        have hcz31_16 : wc.cell? ⟨gb121, 16, none⟩ = some (.slice A0_16 l0_16.length c0_16) := (blk_cell BK121.out 16).trans rfl
                        have hfz31_0 := blk_frozen BK121.out 0
                        have hfz31_1 := blk_frozen BK121.out 1
                        have hfz31_2 := blk_frozen BK121.out 2
                        have hfz31_3 := blk_frozen BK121.out 3
                        have hfz31_4 := blk_frozen BK121.out 4
                        have hfz31_5 := blk_frozen BK121.out 5
                        have hfz31_6 := blk_frozen BK121.out 6
                        have hfz31_7 := blk_frozen BK121.out 7
                        have hfz31_8 := blk_frozen BK121.out 8
                        have hfz31_9 := blk_frozen BK121.out 9
                        have hfz31_10 := blk_frozen BK121.out 10
                        have hfz31_11 := blk_frozen BK121.out 11
                        have hfz31_12 := blk_frozen BK121.out 12
                        have hfz31_13 := blk_frozen BK121.out 13
                        have hfz31_14 := blk_frozen BK121.out 14
                        have hfz31_15 := blk_frozen BK121.out 15
                        have hfz31_16 := blk_frozen BK121.out 16
                        go_wp2_with (first | ((with_reducible refine gate_callee (f := 61) rfl ?_); refine goesL_ (some 46) rfl rfl Try.func61 (by kernel_rfl) rfl #[.agg #[.int .i64 a0_12, .int .i64 a0_13, .float .f64 a0_14, .slice A0_15 l0_15.length c0_15]] rfl (by (try simp only [List.map_toArray, List.map_cons, List.map_nil]); first | done | rfl | (simp only [List.length_drop, List.length_take]; rfl)) ?_; (with_reducible refine (spec_ItemOk.calls kj15 a0_12 a0_13 a0_14 _ _ l0_15 true _ ?side1 ?side2 A29.out).mono ?_); (case side1 => repeat (first | exact (Kd.C_below HR0_15.out HB.out) | (with_reducible refine Kd.C_alloc ?_ _) | (with_reducible refine Kd.C_drewN ?_ _) | (with_reducible refine Kd.C_drew ?_))); (case side2 => exact HC0_15.out); rintro e w32 ⟨rfl, hb⟩; refine ⟨_, rfl, ?_⟩; have n0_ := Aside0.mk (blk_below (g := gb121) (o := .cells #[.int .i64 a0_0, .int .i64 a0_1, .int .i64 a0_2, .int .i64 a0_3, .int .i64 a0_4, .int .i64 a0_5, .float .f64 a0_6, .slice A0_7 l0_7.length c0_7, .int .i64 a0_8, .int .i64 a0_9, .float .f64 a0_10, .slice A0_11 l0_11.length c0_11, .int .i64 a0_12, .int .i64 a0_13, .float .f64 a0_14, .slice A0_15 l0_15.length c0_15, .slice A0_16 l0_16.length c0_16] 48 (0, 0)) (by (with_reducible repeat (first | refine blk_drewN ?_ _ | refine blk_drew ?_ | refine blk_alloc ?_ _)); exact BK121.out) hb); have n1_ := Aside0.mk (below_step (by repeat (first | (with_reducible first | exact HB.out | apply below_alloc | apply pw_below_drewN | apply below_drew1 | refine below_set ?_ GE121.out) | exact HB.out)) hb); clear BK121; clear HB; have BK121 := n0_; have HB := n1_; clear n0_ n1_; (try clear hb); (try clear hb2); (try clear hk); (try clear hi); have hcz33_0 : w32.cell? ⟨gb121, 0, none⟩ = some (.int .i64 a0_0) := (blk_cell BK121.out 0).trans rfl; have hcz33_1 : w32.cell? ⟨gb121, 1, none⟩ = some (.int .i64 a0_1) := (blk_cell BK121.out 1).trans rfl; have hcz33_2 : w32.cell? ⟨gb121, 2, none⟩ = some (.int .i64 a0_2) := (blk_cell BK121.out 2).trans rfl; have hcz33_3 : w32.cell? ⟨gb121, 3, none⟩ = some (.int .i64 a0_3) := (blk_cell BK121.out 3).trans rfl; have hcz33_4 : w32.cell? ⟨gb121, 4, none⟩ = some (.int .i64 a0_4) := (blk_cell BK121.out 4).trans rfl; have hcz33_5 : w32.cell? ⟨gb121, 5, none⟩ = some (.int .i64 a0_5) := (blk_cell BK121.out 5).trans rfl; have hcz33_6 : w32.cell? ⟨gb121, 6, none⟩ = some (.float .f64 a0_6) := (blk_cell BK121.out 6).trans rfl; have hcz33_7 : w32.cell? ⟨gb121, 7, none⟩ = some (.slice A0_7 l0_7.length c0_7) := (blk_cell BK121.out 7).trans rfl; have hcz33_8 : w32.cell? ⟨gb121, 8, none⟩ = some (.int .i64 a0_8) := (blk_cell BK121.out 8).trans rfl; have hcz33_9 : w32.cell? ⟨gb121, 9, none⟩ = some (.int .i64 a0_9) := (blk_cell BK121.out 9).trans rfl; have hcz33_10 : w32.cell? ⟨gb121, 10, none⟩ = some (.float .f64 a0_10) := (blk_cell BK121.out 10).trans rfl; have hcz33_11 : w32.cell? ⟨gb121, 11, none⟩ = some (.slice A0_11 l0_11.length c0_11) := (blk_cell BK121.out 11).trans rfl; have hcz33_12 : w32.cell? ⟨gb121, 12, none⟩ = some (.int .i64 a0_12) := (blk_cell BK121.out 12).trans rfl; have hcz33_13 : w32.cell? ⟨gb121, 13, none⟩ = some (.int .i64 a0_13) := (blk_cell BK121.out 13).trans rfl; have hcz33_14 : w32.cell? ⟨gb121, 14, none⟩ = some (.float .f64 a0_14) := (blk_cell BK121.out 14).trans rfl; have hcz33_15 : w32.cell? ⟨gb121, 15, none⟩ = some (.slice A0_15 l0_15.length c0_15) := (blk_cell BK121.out 15).trans rfl; have hcz33_16 : w32.cell? ⟨gb121, 16, none⟩ = some (.slice A0_16 l0_16.length c0_16) := (blk_cell BK121.out 16).trans rfl; have hfz33_0 := blk_frozen BK121.out 0; have hfz33_1 := blk_frozen BK121.out 1; have hfz33_2 := blk_frozen BK121.out 2; have hfz33_3 := blk_frozen BK121.out 3; have hfz33_4 := blk_frozen BK121.out 4; have hfz33_5 := blk_frozen BK121.out 5; have hfz33_6 := blk_frozen BK121.out 6; have hfz33_7 := blk_frozen BK121.out 7; have hfz33_8 := blk_frozen BK121.out 8; have hfz33_9 := blk_frozen BK121.out 9; have hfz33_10 := blk_frozen BK121.out 10; have hfz33_11 := blk_frozen BK121.out 11; have hfz33_12 := blk_frozen BK121.out 12; have hfz33_13 := blk_frozen BK121.out 13; have hfz33_14 := blk_frozen BK121.out 14; have hfz33_15 := blk_frozen BK121.out 15; have hfz33_16 := blk_frozen BK121.out 16))
                        go_ret
                        exact ⟨by first | rfl | (simp [errW_none, errW_some] <;> rfl) | (simp [*, errW_none, errW_some] <;> rfl), by repeat (first | (with_reducible first | exact HB.out | apply below_alloc | apply pw_below_drewN | apply below_drew1 | refine below_set ?_ GE121.out) | exact HB.out)⟩
                      · replace c30 := Bool.eq_false_iff.mpr c30
                        subst c30
                        have H1 : (some false) = some r := by rw [if_neg (show ¬ (false = true) by decide)] at H; exact H
                        clear H
                        have H := H1
                        clear H1
                        obtain rfl := Option.some.inj H
                        have hcz34_0 : wc.cell? ⟨gb121, 0, none⟩ = some (.int .i64 a0_0) := (blk_cell BK121.out 0).trans rfl
                        have hcz34_1 : wc.cell? ⟨gb121, 1, none⟩ = some (.int .i64 a0_1) := (blk_cell BK121.out 1).trans rfl
                        have hcz34_2 : wc.cell? ⟨gb121, 2, none⟩ = some (.int .i64 a0_2) := (blk_cell BK121.out 2).trans rfl
                        have hcz34_3 : wc.cell? ⟨gb121, 3, none⟩ = some (.int .i64 a0_3) := (blk_cell BK121.out 3).trans rfl
                        have hcz34_4 : wc.cell? ⟨gb121, 4, none⟩ = some (.int .i64 a0_4) := (blk_cell BK121.out 4).trans rfl
                        have hcz34_5 : wc.cell? ⟨gb121, 5, none⟩ = some (.int .i64 a0_5) := (blk_cell BK121.out 5).trans rfl
                        have hcz34_6 : wc.cell? ⟨gb121, 6, none⟩ = some (.float .f64 a0_6) := (blk_cell BK121.out 6).trans rfl
                        have hcz34_7 : wc.cell? ⟨gb121, 7, none⟩ = some (.slice A0_7 l0_7.length c0_7) := (blk_cell BK121.out 7).trans rfl
                        have hcz34_8 : wc.cell? ⟨gb121, 8, none⟩ = some (.int .i64 a0_8) := (blk_cell BK121.out 8).trans rfl
                        have hcz34_9 : wc.cell? ⟨gb121, 9, none⟩ = some (.int .i64 a0_9) := (blk_cell BK121.out 9).trans rfl
                        have hcz34_10 : wc.cell? ⟨gb121, 10, none⟩ = some (.float .f64 a0_10) := (blk_cell BK121.out 10).trans rfl
                        have hcz34_11 : wc.cell? ⟨gb121, 11, none⟩ = some (.slice A0_11 l0_11.length c0_11) := (blk_cell BK121.out 11).trans rfl
                        have hcz34_12 : wc.cell? ⟨gb121, 12, none⟩ = some (.int .i64 a0_12) := (blk_cell BK121.out 12).trans rfl
                        have hcz34_13 : wc.cell? ⟨gb121, 13, none⟩ = some (.int .i64 a0_13) := (blk_cell BK121.out 13).trans rfl
                        have hcz34_14 : wc.cell? ⟨gb121, 14, none⟩ = some (.float .f64 a0_14) := (blk_cell BK121.out 14).trans rfl
                        have hcz34_15 : wc.cell? ⟨gb121, 15, none⟩ = some (.slice A0_15 l0_15.length c0_15) := (blk_cell BK121.out 15).trans rfl
                        have hcz34_16 : wc.cell? ⟨gb121, 16, none⟩ = some (.slice A0_16 l0_16.length c0_16) := (blk_cell BK121.out 16).trans rfl
                        have hfz34_0 := blk_frozen BK121.out 0
                        have hfz34_1 := blk_frozen BK121.out 1
                        have hfz34_2 := blk_frozen BK121.out 2
                        have hfz34_3 := blk_frozen BK121.out 3
                        have hfz34_4 := blk_frozen BK121.out 4
                        have hfz34_5 := blk_frozen BK121.out 5
                        have hfz34_6 := blk_frozen BK121.out 6
                        have hfz34_7 := blk_frozen BK121.out 7
                        have hfz34_8 := blk_frozen BK121.out 8
                        have hfz34_9 := blk_frozen BK121.out 9
                        have hfz34_10 := blk_frozen BK121.out 10
                        have hfz34_11 := blk_frozen BK121.out 11
                        have hfz34_12 := blk_frozen BK121.out 12
                        have hfz34_13 := blk_frozen BK121.out 13
                        have hfz34_14 := blk_frozen BK121.out 14
                        have hfz34_15 := blk_frozen BK121.out 15
                        have hfz34_16 := blk_frozen BK121.out 16
                        go_wp2_with (first | ((with_reducible refine gate_callee (f := 61) rfl ?_); refine goesL_ (some 46) rfl rfl Try.func61 (by kernel_rfl) rfl #[.agg #[.int .i64 a0_12, .int .i64 a0_13, .float .f64 a0_14, .slice A0_15 l0_15.length c0_15]] rfl (by (try simp only [List.map_toArray, List.map_cons, List.map_nil]); first | done | rfl | (simp only [List.length_drop, List.length_take]; rfl)) ?_; (with_reducible refine (spec_ItemOk.calls kj15 a0_12 a0_13 a0_14 _ _ l0_15 false _ ?side1 ?side2 A29.out).mono ?_); (case side1 => repeat (first | exact (Kd.C_below HR0_15.out HB.out) | (with_reducible refine Kd.C_alloc ?_ _) | (with_reducible refine Kd.C_drewN ?_ _) | (with_reducible refine Kd.C_drew ?_))); (case side2 => exact HC0_15.out); rintro e w35 ⟨rfl, hb⟩; refine ⟨_, rfl, ?_⟩; have n0_ := Aside0.mk (blk_below (g := gb121) (o := .cells #[.int .i64 a0_0, .int .i64 a0_1, .int .i64 a0_2, .int .i64 a0_3, .int .i64 a0_4, .int .i64 a0_5, .float .f64 a0_6, .slice A0_7 l0_7.length c0_7, .int .i64 a0_8, .int .i64 a0_9, .float .f64 a0_10, .slice A0_11 l0_11.length c0_11, .int .i64 a0_12, .int .i64 a0_13, .float .f64 a0_14, .slice A0_15 l0_15.length c0_15, .slice A0_16 l0_16.length c0_16] 48 (0, 0)) (by (with_reducible repeat (first | refine blk_drewN ?_ _ | refine blk_drew ?_ | refine blk_alloc ?_ _)); exact BK121.out) hb); have n1_ := Aside0.mk (below_step (by repeat (first | (with_reducible first | exact HB.out | apply below_alloc | apply pw_below_drewN | apply below_drew1 | refine below_set ?_ GE121.out) | exact HB.out)) hb); clear BK121; clear HB; have BK121 := n0_; have HB := n1_; clear n0_ n1_; (try clear hb); (try clear hb2); (try clear hk); (try clear hi)))
                        go_ret
                        exact ⟨by first | rfl | (simp [errW_none, errW_some] <;> rfl) | (simp [*, errW_none, errW_some] <;> rfl), by repeat (first | (with_reducible first | exact HB.out | apply below_alloc | apply pw_below_drewN | apply below_drew1 | refine below_set ?_ GE121.out) | exact HB.out)⟩
                    · rw [if_neg c28] at H
                      have c28b0 : (a0_0 == 3) = false := beq_eq_false_iff_ne.mpr c28
                      have c28b1 : (a0_0 != 3) = true := bne_iff_ne.mpr c28
                      by_cases c36 : a0_0 = 5
                      · rw [if_pos c36] at H
                        have c36b0 : (a0_0 == 5) = true := beq_iff_eq.mpr c36
                        have c36b1 : (a0_0 != 5) = false := bne_eq_false_iff_eq.mpr c36
                        clear c36
                        replace H := Option.bind_eq_some_iff.mp H
                        obtain ⟨⟨t133, t134, t135, t136⟩, A370, H⟩ := H
                        replace H : ((spec_KeyOk.f kj15 t133 t134 t135 t136).bind fun t139 => (if t139 = true then ((spec_l5in.f a0_3 0 50).bind fun t140 => (some t140)) else (some false))) = some r := H
                        have A37 := Aside0.mk A370
                        clear A370
                        replace H := Option.bind_eq_some_iff.mp H
                        obtain ⟨t139, A380, H⟩ := H
                        replace H : (if t139 = true then ((spec_l5in.f a0_3 0 50).bind fun t140 => (some t140)) else (some false)) = some r := H
                        have A38 := Aside0.mk A380
                        clear A380
                        by_cases c39 : t139 = true
                        · subst c39
                          have H1 : ((spec_l5in.f a0_3 0 50).bind fun t140 => (some t140)) = some r := by rw [if_pos rfl] at H; exact H
                          clear H
                          have H := H1
                          clear H1
                          replace H := Option.bind_eq_some_iff.mp H
                          obtain ⟨t140, A400, H⟩ := H
                          replace H : (some t140) = some r := H
                          have A40 := Aside0.mk A400
                          clear A400
                          obtain rfl := Option.some.inj H
                          have hcz41_0 : wc.cell? ⟨gb121, 0, none⟩ = some (.int .i64 a0_0) := (blk_cell BK121.out 0).trans rfl
                          have hcz41_1 : wc.cell? ⟨gb121, 1, none⟩ = some (.int .i64 a0_1) := (blk_cell BK121.out 1).trans rfl
                          have hcz41_2 : wc.cell? ⟨gb121, 2, none⟩ = some (.int .i64 a0_2) := (blk_cell BK121.out 2).trans rfl
                          have hcz41_3 : wc.cell? ⟨gb121, 3, none⟩ = some (.int .i64 a0_3) := (blk_cell BK121.out 3).trans rfl
                          have hcz41_4 : wc.cell? ⟨gb121, 4, none⟩ = some (.int .i64 a0_4) := (blk_cell BK121.out 4).trans rfl
                          have hcz41_5 : wc.cell? ⟨gb121, 5, none⟩ = some (.int .i64 a0_5) := (blk_cell BK121.out 5).trans rfl
                          have hcz41_6 : wc.cell? ⟨gb121, 6, none⟩ = some (.float .f64 a0_6) := (blk_cell BK121.out 6).trans rfl
                          have hcz41_7 : wc.cell? ⟨gb121, 7, none⟩ = some (.slice A0_7 l0_7.length c0_7) := (blk_cell BK121.out 7).trans rfl
                          have hcz41_8 : wc.cell? ⟨gb121, 8, none⟩ = some (.int .i64 a0_8) := (blk_cell BK121.out 8).trans rfl
                          have hcz41_9 : wc.cell? ⟨gb121, 9, none⟩ = some (.int .i64 a0_9) := (blk_cell BK121.out 9).trans rfl
                          have hcz41_10 : wc.cell? ⟨gb121, 10, none⟩ = some (.float .f64 a0_10) := (blk_cell BK121.out 10).trans rfl
                          have hcz41_11 : wc.cell? ⟨gb121, 11, none⟩ = some (.slice A0_11 l0_11.length c0_11) := (blk_cell BK121.out 11).trans rfl
                          have hcz41_12 : wc.cell? ⟨gb121, 12, none⟩ = some (.int .i64 a0_12) := (blk_cell BK121.out 12).trans rfl
                          have hcz41_13 : wc.cell? ⟨gb121, 13, none⟩ = some (.int .i64 a0_13) := (blk_cell BK121.out 13).trans rfl
                          have hcz41_14 : wc.cell? ⟨gb121, 14, none⟩ = some (.float .f64 a0_14) := (blk_cell BK121.out 14).trans rfl
                          have hcz41_15 : wc.cell? ⟨gb121, 15, none⟩ = some (.slice A0_15 l0_15.length c0_15) := (blk_cell BK121.out 15).trans rfl
                          have hcz41_16 : wc.cell? ⟨gb121, 16, none⟩ = some (.slice A0_16 l0_16.length c0_16) := (blk_cell BK121.out 16).trans rfl
                          have hfz41_0 := blk_frozen BK121.out 0
                          have hfz41_1 := blk_frozen BK121.out 1
                          have hfz41_2 := blk_frozen BK121.out 2
                          have hfz41_3 := blk_frozen BK121.out 3
                          have hfz41_4 := blk_frozen BK121.out 4
                          have hfz41_5 := blk_frozen BK121.out 5
                          have hfz41_6 := blk_frozen BK121.out 6
                          have hfz41_7 := blk_frozen BK121.out 7
                          have hfz41_8 := blk_frozen BK121.out 8
                          have hfz41_9 := blk_frozen BK121.out 9
                          have hfz41_10 := blk_frozen BK121.out 10
                          have hfz41_11 := blk_frozen BK121.out 11
                          have hfz41_12 := blk_frozen BK121.out 12
                          have hfz41_13 := blk_frozen BK121.out 13
                          have hfz41_14 := blk_frozen BK121.out 14
                          have hfz41_15 := blk_frozen BK121.out 15
                          have hfz41_16 := blk_frozen BK121.out 16
                          go_wp2_with (first | ((with_reducible refine gate_callee (f := 14) rfl ?_); refine goesL_ (some 57) rfl rfl Try.func14 (by kernel_rfl) rfl #[.agg #[.int .i64 a0_8, .int .i64 a0_9, .float .f64 a0_10, .slice A0_11 l0_11.length c0_11]] rfl (by (try simp only [List.map_toArray, List.map_cons, List.map_nil]); first | done | rfl | (simp only [List.length_drop, List.length_take]; rfl)) ?_; (with_reducible refine (spec_ItemClean.calls kj15 a0_8 a0_9 a0_10 _ _ l0_11 t133 t134 t135 t136 _ ?side1 ?side2 A37.out).mono ?_); (case side1 => repeat (first | exact (Kd.C_below HR0_11.out HB.out) | (with_reducible refine Kd.C_alloc ?_ _) | (with_reducible refine Kd.C_drewN ?_ _) | (with_reducible refine Kd.C_drew ?_))); (case side2 => exact HC0_11.out); rintro e w42 ⟨v137, rfl, ho0, hb⟩; refine ⟨_, rfl, ?_⟩; have n0_ := Aside0.mk (Kd.R_lower ho0 (below_size (by repeat (first | (with_reducible first | exact HB.out | apply below_alloc | apply pw_below_drewN | apply below_drew1 | refine below_set ?_ GE121.out) | exact HB.out)))); have n1_ := Aside0.mk (blk_below (g := gb121) (o := .cells #[.int .i64 a0_0, .int .i64 a0_1, .int .i64 a0_2, .int .i64 a0_3, .int .i64 a0_4, .int .i64 a0_5, .float .f64 a0_6, .slice A0_7 l0_7.length c0_7, .int .i64 a0_8, .int .i64 a0_9, .float .f64 a0_10, .slice A0_11 l0_11.length c0_11, .int .i64 a0_12, .int .i64 a0_13, .float .f64 a0_14, .slice A0_15 l0_15.length c0_15, .slice A0_16 l0_16.length c0_16] 48 (0, 0)) (by (with_reducible repeat (first | refine blk_drewN ?_ _ | refine blk_drew ?_ | refine blk_alloc ?_ _)); exact BK121.out) hb); have n2_ := Aside0.mk (below_step (by repeat (first | (with_reducible first | exact HB.out | apply below_alloc | apply pw_below_drewN | apply below_drew1 | refine below_set ?_ GE121.out) | exact HB.out)) hb); clear BK121; clear HB; have HO138 := n0_; have BK121 := n1_; have HB := n2_; clear n0_ n1_ n2_; (try clear hb); (try clear hb2); (try clear hk); (try clear hi); (try clear ho0); obtain ⟨Ao43, co43, eo43⟩ := Kd.R_slice HO138.out; subst eo43) | ((with_reducible refine gate_callee (f := 70) rfl ?_); refine goesL_ (some 58) rfl rfl Try.func70 (by kernel_rfl) rfl #[.agg #[.int .i64 t133, .int .i64 t134, .float .f64 t135, .slice Ao43 t136.length co43]] rfl (by (try simp only [List.map_toArray, List.map_cons, List.map_nil]); first | done | rfl | (simp only [List.length_drop, List.length_take]; rfl)) ?_; (with_reducible refine (spec_KeyOk.calls kj15 t133 t134 t135 _ _ t136 true _ ?side1 ?side2 A38.out).mono ?_); (case side1 => repeat (first | exact (Kd.R_reads' HO138.out).2.2 | (with_reducible refine Kd.C_alloc ?_ _) | (with_reducible refine Kd.C_drewN ?_ _) | (with_reducible refine Kd.C_drew ?_))); (case side2 => exact (Kd.R_reads' HO138.out).2.1); rintro e w44 ⟨rfl, hb⟩; refine ⟨_, rfl, ?_⟩; have n0_ := Aside0.mk (Kd.R_below (by (with_reducible repeat (first | apply Kd.R_alloc | apply Kd.R_drewN | apply Kd.R_drew)); exact HO138.out) hb); have n1_ := Aside0.mk (blk_below (g := gb121) (o := .cells #[.int .i64 a0_0, .int .i64 a0_1, .int .i64 a0_2, .int .i64 a0_3, .int .i64 a0_4, .int .i64 a0_5, .float .f64 a0_6, .slice A0_7 l0_7.length c0_7, .int .i64 a0_8, .int .i64 a0_9, .float .f64 a0_10, .slice A0_11 l0_11.length c0_11, .int .i64 a0_12, .int .i64 a0_13, .float .f64 a0_14, .slice A0_15 l0_15.length c0_15, .slice A0_16 l0_16.length c0_16] 48 (0, 0)) (by (with_reducible repeat (first | refine blk_drewN ?_ _ | refine blk_drew ?_ | refine blk_alloc ?_ _)); exact BK121.out) hb); have n2_ := Aside0.mk (below_step (by repeat (first | (with_reducible first | exact HB.out | apply below_alloc | apply pw_below_drewN | apply below_drew1 | refine below_set ?_ GE121.out) | exact HB.out)) hb); clear HO138; clear BK121; clear HB; have HO138 := n0_; have BK121 := n1_; have HB := n2_; clear n0_ n1_ n2_; (try clear hb); (try clear hb2); (try clear hk); (try clear hi); have hcz45_0 : w44.cell? ⟨gb121, 0, none⟩ = some (.int .i64 a0_0) := (blk_cell BK121.out 0).trans rfl; have hcz45_1 : w44.cell? ⟨gb121, 1, none⟩ = some (.int .i64 a0_1) := (blk_cell BK121.out 1).trans rfl; have hcz45_2 : w44.cell? ⟨gb121, 2, none⟩ = some (.int .i64 a0_2) := (blk_cell BK121.out 2).trans rfl; have hcz45_3 : w44.cell? ⟨gb121, 3, none⟩ = some (.int .i64 a0_3) := (blk_cell BK121.out 3).trans rfl; have hcz45_4 : w44.cell? ⟨gb121, 4, none⟩ = some (.int .i64 a0_4) := (blk_cell BK121.out 4).trans rfl; have hcz45_5 : w44.cell? ⟨gb121, 5, none⟩ = some (.int .i64 a0_5) := (blk_cell BK121.out 5).trans rfl; have hcz45_6 : w44.cell? ⟨gb121, 6, none⟩ = some (.float .f64 a0_6) := (blk_cell BK121.out 6).trans rfl; have hcz45_7 : w44.cell? ⟨gb121, 7, none⟩ = some (.slice A0_7 l0_7.length c0_7) := (blk_cell BK121.out 7).trans rfl; have hcz45_8 : w44.cell? ⟨gb121, 8, none⟩ = some (.int .i64 a0_8) := (blk_cell BK121.out 8).trans rfl; have hcz45_9 : w44.cell? ⟨gb121, 9, none⟩ = some (.int .i64 a0_9) := (blk_cell BK121.out 9).trans rfl; have hcz45_10 : w44.cell? ⟨gb121, 10, none⟩ = some (.float .f64 a0_10) := (blk_cell BK121.out 10).trans rfl; have hcz45_11 : w44.cell? ⟨gb121, 11, none⟩ = some (.slice A0_11 l0_11.length c0_11) := (blk_cell BK121.out 11).trans rfl; have hcz45_12 : w44.cell? ⟨gb121, 12, none⟩ = some (.int .i64 a0_12) := (blk_cell BK121.out 12).trans rfl; have hcz45_13 : w44.cell? ⟨gb121, 13, none⟩ = some (.int .i64 a0_13) := (blk_cell BK121.out 13).trans rfl; have hcz45_14 : w44.cell? ⟨gb121, 14, none⟩ = some (.float .f64 a0_14) := (blk_cell BK121.out 14).trans rfl; have hcz45_15 : w44.cell? ⟨gb121, 15, none⟩ = some (.slice A0_15 l0_15.length c0_15) := (blk_cell BK121.out 15).trans rfl; have hcz45_16 : w44.cell? ⟨gb121, 16, none⟩ = some (.slice A0_16 l0_16.length c0_16) := (blk_cell BK121.out 16).trans rfl; have hfz45_0 := blk_frozen BK121.out 0; have hfz45_1 := blk_frozen BK121.out 1; have hfz45_2 := blk_frozen BK121.out 2; have hfz45_3 := blk_frozen BK121.out 3; have hfz45_4 := blk_frozen BK121.out 4; have hfz45_5 := blk_frozen BK121.out 5; have hfz45_6 := blk_frozen BK121.out 6; have hfz45_7 := blk_frozen BK121.out 7; have hfz45_8 := blk_frozen BK121.out 8; have hfz45_9 := blk_frozen BK121.out 9; have hfz45_10 := blk_frozen BK121.out 10; have hfz45_11 := blk_frozen BK121.out 11; have hfz45_12 := blk_frozen BK121.out 12; have hfz45_13 := blk_frozen BK121.out 13; have hfz45_14 := blk_frozen BK121.out 14; have hfz45_15 := blk_frozen BK121.out 15; have hfz45_16 := blk_frozen BK121.out 16) | (go_at_call 75; (with_reducible refine (spec_l5in.calls a0_3 0 50 t140 _ A40.out).mono ?_); rintro e w' ⟨rfl, ⟨nd, rfl⟩⟩))
                          go_ret
                          exact ⟨by first | rfl | (simp [errW_none, errW_some] <;> rfl) | (simp [*, errW_none, errW_some] <;> rfl), by repeat (first | (with_reducible first | exact HB.out | apply below_alloc | apply pw_below_drewN | apply below_drew1 | refine below_set ?_ GE121.out) | exact HB.out)⟩
                        · replace c39 := Bool.eq_false_iff.mpr c39
                          subst c39
                          have H1 : (some false) = some r := by rw [if_neg (show ¬ (false = true) by decide)] at H; exact H
                          clear H
                          have H := H1
                          clear H1
                          obtain rfl := Option.some.inj H
                          have hcz46_0 : wc.cell? ⟨gb121, 0, none⟩ = some (.int .i64 a0_0) := (blk_cell BK121.out 0).trans rfl
                          have hcz46_1 : wc.cell? ⟨gb121, 1, none⟩ = some (.int .i64 a0_1) := (blk_cell BK121.out 1).trans rfl
                          have hcz46_2 : wc.cell? ⟨gb121, 2, none⟩ = some (.int .i64 a0_2) := (blk_cell BK121.out 2).trans rfl
                          have hcz46_3 : wc.cell? ⟨gb121, 3, none⟩ = some (.int .i64 a0_3) := (blk_cell BK121.out 3).trans rfl
                          have hcz46_4 : wc.cell? ⟨gb121, 4, none⟩ = some (.int .i64 a0_4) := (blk_cell BK121.out 4).trans rfl
                          have hcz46_5 : wc.cell? ⟨gb121, 5, none⟩ = some (.int .i64 a0_5) := (blk_cell BK121.out 5).trans rfl
                          have hcz46_6 : wc.cell? ⟨gb121, 6, none⟩ = some (.float .f64 a0_6) := (blk_cell BK121.out 6).trans rfl
                          have hcz46_7 : wc.cell? ⟨gb121, 7, none⟩ = some (.slice A0_7 l0_7.length c0_7) := (blk_cell BK121.out 7).trans rfl
                          have hcz46_8 : wc.cell? ⟨gb121, 8, none⟩ = some (.int .i64 a0_8) := (blk_cell BK121.out 8).trans rfl
                          have hcz46_9 : wc.cell? ⟨gb121, 9, none⟩ = some (.int .i64 a0_9) := (blk_cell BK121.out 9).trans rfl
                          have hcz46_10 : wc.cell? ⟨gb121, 10, none⟩ = some (.float .f64 a0_10) := (blk_cell BK121.out 10).trans rfl
                          have hcz46_11 : wc.cell? ⟨gb121, 11, none⟩ = some (.slice A0_11 l0_11.length c0_11) := (blk_cell BK121.out 11).trans rfl
                          have hcz46_12 : wc.cell? ⟨gb121, 12, none⟩ = some (.int .i64 a0_12) := (blk_cell BK121.out 12).trans rfl
                          have hcz46_13 : wc.cell? ⟨gb121, 13, none⟩ = some (.int .i64 a0_13) := (blk_cell BK121.out 13).trans rfl
                          have hcz46_14 : wc.cell? ⟨gb121, 14, none⟩ = some (.float .f64 a0_14) := (blk_cell BK121.out 14).trans rfl
                          have hcz46_15 : wc.cell? ⟨gb121, 15, none⟩ = some (.slice A0_15 l0_15.length c0_15) := (blk_cell BK121.out 15).trans rfl
                          have hcz46_16 : wc.cell? ⟨gb121, 16, none⟩ = some (.slice A0_16 l0_16.length c0_16) := (blk_cell BK121.out 16).trans rfl
                          have hfz46_0 := blk_frozen BK121.out 0
                          have hfz46_1 := blk_frozen BK121.out 1
                          have hfz46_2 := blk_frozen BK121.out 2
                          have hfz46_3 := blk_frozen BK121.out 3
                          have hfz46_4 := blk_frozen BK121.out 4
                          have hfz46_5 := blk_frozen BK121.out 5
                          have hfz46_6 := blk_frozen BK121.out 6
                          have hfz46_7 := blk_frozen BK121.out 7
                          have hfz46_8 := blk_frozen BK121.out 8
                          have hfz46_9 := blk_frozen BK121.out 9
                          have hfz46_10 := blk_frozen BK121.out 10
                          have hfz46_11 := blk_frozen BK121.out 11
                          have hfz46_12 := blk_frozen BK121.out 12
                          have hfz46_13 := blk_frozen BK121.out 13
                          have hfz46_14 := blk_frozen BK121.out 14
                          have hfz46_15 := blk_frozen BK121.out 15
                          have hfz46_16 := blk_frozen BK121.out 16
                          go_wp2_with (first | ((with_reducible refine gate_callee (f := 14) rfl ?_); refine goesL_ (some 57) rfl rfl Try.func14 (by kernel_rfl) rfl #[.agg #[.int .i64 a0_8, .int .i64 a0_9, .float .f64 a0_10, .slice A0_11 l0_11.length c0_11]] rfl (by (try simp only [List.map_toArray, List.map_cons, List.map_nil]); first | done | rfl | (simp only [List.length_drop, List.length_take]; rfl)) ?_; (with_reducible refine (spec_ItemClean.calls kj15 a0_8 a0_9 a0_10 _ _ l0_11 t133 t134 t135 t136 _ ?side1 ?side2 A37.out).mono ?_); (case side1 => repeat (first | exact (Kd.C_below HR0_11.out HB.out) | (with_reducible refine Kd.C_alloc ?_ _) | (with_reducible refine Kd.C_drewN ?_ _) | (with_reducible refine Kd.C_drew ?_))); (case side2 => exact HC0_11.out); rintro e w47 ⟨v137, rfl, ho0, hb⟩; refine ⟨_, rfl, ?_⟩; have n0_ := Aside0.mk (Kd.R_lower ho0 (below_size (by repeat (first | (with_reducible first | exact HB.out | apply below_alloc | apply pw_below_drewN | apply below_drew1 | refine below_set ?_ GE121.out) | exact HB.out)))); have n1_ := Aside0.mk (blk_below (g := gb121) (o := .cells #[.int .i64 a0_0, .int .i64 a0_1, .int .i64 a0_2, .int .i64 a0_3, .int .i64 a0_4, .int .i64 a0_5, .float .f64 a0_6, .slice A0_7 l0_7.length c0_7, .int .i64 a0_8, .int .i64 a0_9, .float .f64 a0_10, .slice A0_11 l0_11.length c0_11, .int .i64 a0_12, .int .i64 a0_13, .float .f64 a0_14, .slice A0_15 l0_15.length c0_15, .slice A0_16 l0_16.length c0_16] 48 (0, 0)) (by (with_reducible repeat (first | refine blk_drewN ?_ _ | refine blk_drew ?_ | refine blk_alloc ?_ _)); exact BK121.out) hb); have n2_ := Aside0.mk (below_step (by repeat (first | (with_reducible first | exact HB.out | apply below_alloc | apply pw_below_drewN | apply below_drew1 | refine below_set ?_ GE121.out) | exact HB.out)) hb); clear BK121; clear HB; have HO138 := n0_; have BK121 := n1_; have HB := n2_; clear n0_ n1_ n2_; (try clear hb); (try clear hb2); (try clear hk); (try clear hi); (try clear ho0); obtain ⟨Ao48, co48, eo48⟩ := Kd.R_slice HO138.out; subst eo48) | ((with_reducible refine gate_callee (f := 70) rfl ?_); refine goesL_ (some 58) rfl rfl Try.func70 (by kernel_rfl) rfl #[.agg #[.int .i64 t133, .int .i64 t134, .float .f64 t135, .slice Ao48 t136.length co48]] rfl (by (try simp only [List.map_toArray, List.map_cons, List.map_nil]); first | done | rfl | (simp only [List.length_drop, List.length_take]; rfl)) ?_; (with_reducible refine (spec_KeyOk.calls kj15 t133 t134 t135 _ _ t136 false _ ?side1 ?side2 A38.out).mono ?_); (case side1 => repeat (first | exact (Kd.R_reads' HO138.out).2.2 | (with_reducible refine Kd.C_alloc ?_ _) | (with_reducible refine Kd.C_drewN ?_ _) | (with_reducible refine Kd.C_drew ?_))); (case side2 => exact (Kd.R_reads' HO138.out).2.1); rintro e w49 ⟨rfl, hb⟩; refine ⟨_, rfl, ?_⟩; have n0_ := Aside0.mk (Kd.R_below (by (with_reducible repeat (first | apply Kd.R_alloc | apply Kd.R_drewN | apply Kd.R_drew)); exact HO138.out) hb); have n1_ := Aside0.mk (blk_below (g := gb121) (o := .cells #[.int .i64 a0_0, .int .i64 a0_1, .int .i64 a0_2, .int .i64 a0_3, .int .i64 a0_4, .int .i64 a0_5, .float .f64 a0_6, .slice A0_7 l0_7.length c0_7, .int .i64 a0_8, .int .i64 a0_9, .float .f64 a0_10, .slice A0_11 l0_11.length c0_11, .int .i64 a0_12, .int .i64 a0_13, .float .f64 a0_14, .slice A0_15 l0_15.length c0_15, .slice A0_16 l0_16.length c0_16] 48 (0, 0)) (by (with_reducible repeat (first | refine blk_drewN ?_ _ | refine blk_drew ?_ | refine blk_alloc ?_ _)); exact BK121.out) hb); have n2_ := Aside0.mk (below_step (by repeat (first | (with_reducible first | exact HB.out | apply below_alloc | apply pw_below_drewN | apply below_drew1 | refine below_set ?_ GE121.out) | exact HB.out)) hb); clear HO138; clear BK121; clear HB; have HO138 := n0_; have BK121 := n1_; have HB := n2_; clear n0_ n1_ n2_; (try clear hb); (try clear hb2); (try clear hk); (try clear hi)))
                          go_ret
                          exact ⟨by first | rfl | (simp [errW_none, errW_some] <;> rfl) | (simp [*, errW_none, errW_some] <;> rfl), by repeat (first | (with_reducible first | exact HB.out | apply below_alloc | apply pw_below_drewN | apply below_drew1 | refine below_set ?_ GE121.out) | exact HB.out)⟩
                      · rw [if_neg c36] at H
                        have c36b0 : (a0_0 == 5) = false := beq_eq_false_iff_ne.mpr c36
                        have c36b1 : (a0_0 != 5) = true := bne_iff_ne.mpr c36
                        by_cases c50 : a0_0 = 6
                        · rw [if_pos c50] at H
                          have c50b0 : (a0_0 == 6) = true := beq_iff_eq.mpr c50
                          have c50b1 : (a0_0 != 6) = false := bne_eq_false_iff_eq.mpr c50
                          clear c50
                          replace H := Option.bind_eq_some_iff.mp H
                          obtain ⟨⟨t141, t142, t143, t144⟩, A510, H⟩ := H
                          replace H : ((spec_KeyOk.f kj15 t141 t142 t143 t144).bind fun t147 => (some t147)) = some r := H
                          have A51 := Aside0.mk A510
                          clear A510
                          replace H := Option.bind_eq_some_iff.mp H
                          obtain ⟨t147, A520, H⟩ := H
                          replace H : (some t147) = some r := H
                          have A52 := Aside0.mk A520
                          clear A520
                          obtain rfl := Option.some.inj H
                          have hcz53_0 : wc.cell? ⟨gb121, 0, none⟩ = some (.int .i64 a0_0) := (blk_cell BK121.out 0).trans rfl
                          have hcz53_1 : wc.cell? ⟨gb121, 1, none⟩ = some (.int .i64 a0_1) := (blk_cell BK121.out 1).trans rfl
                          have hcz53_2 : wc.cell? ⟨gb121, 2, none⟩ = some (.int .i64 a0_2) := (blk_cell BK121.out 2).trans rfl
                          have hcz53_3 : wc.cell? ⟨gb121, 3, none⟩ = some (.int .i64 a0_3) := (blk_cell BK121.out 3).trans rfl
                          have hcz53_4 : wc.cell? ⟨gb121, 4, none⟩ = some (.int .i64 a0_4) := (blk_cell BK121.out 4).trans rfl
                          have hcz53_5 : wc.cell? ⟨gb121, 5, none⟩ = some (.int .i64 a0_5) := (blk_cell BK121.out 5).trans rfl
                          have hcz53_6 : wc.cell? ⟨gb121, 6, none⟩ = some (.float .f64 a0_6) := (blk_cell BK121.out 6).trans rfl
                          have hcz53_7 : wc.cell? ⟨gb121, 7, none⟩ = some (.slice A0_7 l0_7.length c0_7) := (blk_cell BK121.out 7).trans rfl
                          have hcz53_8 : wc.cell? ⟨gb121, 8, none⟩ = some (.int .i64 a0_8) := (blk_cell BK121.out 8).trans rfl
                          have hcz53_9 : wc.cell? ⟨gb121, 9, none⟩ = some (.int .i64 a0_9) := (blk_cell BK121.out 9).trans rfl
                          have hcz53_10 : wc.cell? ⟨gb121, 10, none⟩ = some (.float .f64 a0_10) := (blk_cell BK121.out 10).trans rfl
                          have hcz53_11 : wc.cell? ⟨gb121, 11, none⟩ = some (.slice A0_11 l0_11.length c0_11) := (blk_cell BK121.out 11).trans rfl
                          have hcz53_12 : wc.cell? ⟨gb121, 12, none⟩ = some (.int .i64 a0_12) := (blk_cell BK121.out 12).trans rfl
                          have hcz53_13 : wc.cell? ⟨gb121, 13, none⟩ = some (.int .i64 a0_13) := (blk_cell BK121.out 13).trans rfl
                          have hcz53_14 : wc.cell? ⟨gb121, 14, none⟩ = some (.float .f64 a0_14) := (blk_cell BK121.out 14).trans rfl
                          have hcz53_15 : wc.cell? ⟨gb121, 15, none⟩ = some (.slice A0_15 l0_15.length c0_15) := (blk_cell BK121.out 15).trans rfl
                          have hcz53_16 : wc.cell? ⟨gb121, 16, none⟩ = some (.slice A0_16 l0_16.length c0_16) := (blk_cell BK121.out 16).trans rfl
                          have hfz53_0 := blk_frozen BK121.out 0
                          have hfz53_1 := blk_frozen BK121.out 1
                          have hfz53_2 := blk_frozen BK121.out 2
                          have hfz53_3 := blk_frozen BK121.out 3
                          have hfz53_4 := blk_frozen BK121.out 4
                          have hfz53_5 := blk_frozen BK121.out 5
                          have hfz53_6 := blk_frozen BK121.out 6
                          have hfz53_7 := blk_frozen BK121.out 7
                          have hfz53_8 := blk_frozen BK121.out 8
                          have hfz53_9 := blk_frozen BK121.out 9
                          have hfz53_10 := blk_frozen BK121.out 10
                          have hfz53_11 := blk_frozen BK121.out 11
                          have hfz53_12 := blk_frozen BK121.out 12
                          have hfz53_13 := blk_frozen BK121.out 13
                          have hfz53_14 := blk_frozen BK121.out 14
                          have hfz53_15 := blk_frozen BK121.out 15
                          have hfz53_16 := blk_frozen BK121.out 16
                          go_wp2_with (first | ((with_reducible refine gate_callee (f := 14) rfl ?_); refine goesL_ (some 68) rfl rfl Try.func14 (by kernel_rfl) rfl #[.agg #[.int .i64 a0_8, .int .i64 a0_9, .float .f64 a0_10, .slice A0_11 l0_11.length c0_11]] rfl (by (try simp only [List.map_toArray, List.map_cons, List.map_nil]); first | done | rfl | (simp only [List.length_drop, List.length_take]; rfl)) ?_; (with_reducible refine (spec_ItemClean.calls kj15 a0_8 a0_9 a0_10 _ _ l0_11 t141 t142 t143 t144 _ ?side1 ?side2 A51.out).mono ?_); (case side1 => repeat (first | exact (Kd.C_below HR0_11.out HB.out) | (with_reducible refine Kd.C_alloc ?_ _) | (with_reducible refine Kd.C_drewN ?_ _) | (with_reducible refine Kd.C_drew ?_))); (case side2 => exact HC0_11.out); rintro e w54 ⟨v145, rfl, ho0, hb⟩; refine ⟨_, rfl, ?_⟩; have n0_ := Aside0.mk (Kd.R_lower ho0 (below_size (by repeat (first | (with_reducible first | exact HB.out | apply below_alloc | apply pw_below_drewN | apply below_drew1 | refine below_set ?_ GE121.out) | exact HB.out)))); have n1_ := Aside0.mk (blk_below (g := gb121) (o := .cells #[.int .i64 a0_0, .int .i64 a0_1, .int .i64 a0_2, .int .i64 a0_3, .int .i64 a0_4, .int .i64 a0_5, .float .f64 a0_6, .slice A0_7 l0_7.length c0_7, .int .i64 a0_8, .int .i64 a0_9, .float .f64 a0_10, .slice A0_11 l0_11.length c0_11, .int .i64 a0_12, .int .i64 a0_13, .float .f64 a0_14, .slice A0_15 l0_15.length c0_15, .slice A0_16 l0_16.length c0_16] 48 (0, 0)) (by (with_reducible repeat (first | refine blk_drewN ?_ _ | refine blk_drew ?_ | refine blk_alloc ?_ _)); exact BK121.out) hb); have n2_ := Aside0.mk (below_step (by repeat (first | (with_reducible first | exact HB.out | apply below_alloc | apply pw_below_drewN | apply below_drew1 | refine below_set ?_ GE121.out) | exact HB.out)) hb); clear BK121; clear HB; have HO146 := n0_; have BK121 := n1_; have HB := n2_; clear n0_ n1_ n2_; (try clear hb); (try clear hb2); (try clear hk); (try clear hi); (try clear ho0); obtain ⟨Ao55, co55, eo55⟩ := Kd.R_slice HO146.out; subst eo55) | ((with_reducible refine gate_callee (f := 70) rfl ?_); refine goesL_ (some 69) rfl rfl Try.func70 (by kernel_rfl) rfl #[.agg #[.int .i64 t141, .int .i64 t142, .float .f64 t143, .slice Ao55 t144.length co55]] rfl (by (try simp only [List.map_toArray, List.map_cons, List.map_nil]); first | done | rfl | (simp only [List.length_drop, List.length_take]; rfl)) ?_; (with_reducible refine (spec_KeyOk.calls kj15 t141 t142 t143 _ _ t144 t147 _ ?side1 ?side2 A52.out).mono ?_); (case side1 => repeat (first | exact (Kd.R_reads' HO146.out).2.2 | (with_reducible refine Kd.C_alloc ?_ _) | (with_reducible refine Kd.C_drewN ?_ _) | (with_reducible refine Kd.C_drew ?_))); (case side2 => exact (Kd.R_reads' HO146.out).2.1); rintro e w56 ⟨rfl, hb⟩; refine ⟨_, rfl, ?_⟩; have n0_ := Aside0.mk (Kd.R_below (by (with_reducible repeat (first | apply Kd.R_alloc | apply Kd.R_drewN | apply Kd.R_drew)); exact HO146.out) hb); have n1_ := Aside0.mk (blk_below (g := gb121) (o := .cells #[.int .i64 a0_0, .int .i64 a0_1, .int .i64 a0_2, .int .i64 a0_3, .int .i64 a0_4, .int .i64 a0_5, .float .f64 a0_6, .slice A0_7 l0_7.length c0_7, .int .i64 a0_8, .int .i64 a0_9, .float .f64 a0_10, .slice A0_11 l0_11.length c0_11, .int .i64 a0_12, .int .i64 a0_13, .float .f64 a0_14, .slice A0_15 l0_15.length c0_15, .slice A0_16 l0_16.length c0_16] 48 (0, 0)) (by (with_reducible repeat (first | refine blk_drewN ?_ _ | refine blk_drew ?_ | refine blk_alloc ?_ _)); exact BK121.out) hb); have n2_ := Aside0.mk (below_step (by repeat (first | (with_reducible first | exact HB.out | apply below_alloc | apply pw_below_drewN | apply below_drew1 | refine below_set ?_ GE121.out) | exact HB.out)) hb); clear HO146; clear BK121; clear HB; have HO146 := n0_; have BK121 := n1_; have HB := n2_; clear n0_ n1_ n2_; (try clear hb); (try clear hb2); (try clear hk); (try clear hi)))
                          go_ret
                          exact ⟨by first | rfl | (simp [errW_none, errW_some] <;> rfl) | (simp [*, errW_none, errW_some] <;> rfl), by repeat (first | (with_reducible first | exact HB.out | apply below_alloc | apply pw_below_drewN | apply below_drew1 | refine below_set ?_ GE121.out) | exact HB.out)⟩
                        · rw [if_neg c50] at H
                          have c50b0 : (a0_0 == 6) = false := beq_eq_false_iff_ne.mpr c50
                          have c50b1 : (a0_0 != 6) = true := bne_iff_ne.mpr c50
                          by_cases c57 : a0_0 = 11
                          · rw [if_pos c57] at H
                            have c57b0 : (a0_0 == 11) = true := beq_iff_eq.mpr c57
                            have c57b1 : (a0_0 != 11) = false := bne_eq_false_iff_eq.mpr c57
                            clear c57
                            replace H := Option.bind_eq_some_iff.mp H
                            obtain ⟨t148, A580, H⟩ := H
                            replace H : (some t148) = some r := H
                            have A58 := Aside0.mk A580
                            clear A580
                            obtain rfl := Option.some.inj H
                            have hcz59_0 : wc.cell? ⟨gb121, 0, none⟩ = some (.int .i64 a0_0) := (blk_cell BK121.out 0).trans rfl
                            have hcz59_1 : wc.cell? ⟨gb121, 1, none⟩ = some (.int .i64 a0_1) := (blk_cell BK121.out 1).trans rfl
                            have hcz59_2 : wc.cell? ⟨gb121, 2, none⟩ = some (.int .i64 a0_2) := (blk_cell BK121.out 2).trans rfl
                            have hcz59_3 : wc.cell? ⟨gb121, 3, none⟩ = some (.int .i64 a0_3) := (blk_cell BK121.out 3).trans rfl
                            have hcz59_4 : wc.cell? ⟨gb121, 4, none⟩ = some (.int .i64 a0_4) := (blk_cell BK121.out 4).trans rfl
                            have hcz59_5 : wc.cell? ⟨gb121, 5, none⟩ = some (.int .i64 a0_5) := (blk_cell BK121.out 5).trans rfl
                            have hcz59_6 : wc.cell? ⟨gb121, 6, none⟩ = some (.float .f64 a0_6) := (blk_cell BK121.out 6).trans rfl
                            have hcz59_7 : wc.cell? ⟨gb121, 7, none⟩ = some (.slice A0_7 l0_7.length c0_7) := (blk_cell BK121.out 7).trans rfl
                            have hcz59_8 : wc.cell? ⟨gb121, 8, none⟩ = some (.int .i64 a0_8) := (blk_cell BK121.out 8).trans rfl
                            have hcz59_9 : wc.cell? ⟨gb121, 9, none⟩ = some (.int .i64 a0_9) := (blk_cell BK121.out 9).trans rfl
                            have hcz59_10 : wc.cell? ⟨gb121, 10, none⟩ = some (.float .f64 a0_10) := (blk_cell BK121.out 10).trans rfl
                            have hcz59_11 : wc.cell? ⟨gb121, 11, none⟩ = some (.slice A0_11 l0_11.length c0_11) := (blk_cell BK121.out 11).trans rfl
                            have hcz59_12 : wc.cell? ⟨gb121, 12, none⟩ = some (.int .i64 a0_12) := (blk_cell BK121.out 12).trans rfl
                            have hcz59_13 : wc.cell? ⟨gb121, 13, none⟩ = some (.int .i64 a0_13) := (blk_cell BK121.out 13).trans rfl
                            have hcz59_14 : wc.cell? ⟨gb121, 14, none⟩ = some (.float .f64 a0_14) := (blk_cell BK121.out 14).trans rfl
                            have hcz59_15 : wc.cell? ⟨gb121, 15, none⟩ = some (.slice A0_15 l0_15.length c0_15) := (blk_cell BK121.out 15).trans rfl
                            have hcz59_16 : wc.cell? ⟨gb121, 16, none⟩ = some (.slice A0_16 l0_16.length c0_16) := (blk_cell BK121.out 16).trans rfl
                            have hfz59_0 := blk_frozen BK121.out 0
                            have hfz59_1 := blk_frozen BK121.out 1
                            have hfz59_2 := blk_frozen BK121.out 2
                            have hfz59_3 := blk_frozen BK121.out 3
                            have hfz59_4 := blk_frozen BK121.out 4
                            have hfz59_5 := blk_frozen BK121.out 5
                            have hfz59_6 := blk_frozen BK121.out 6
                            have hfz59_7 := blk_frozen BK121.out 7
                            have hfz59_8 := blk_frozen BK121.out 8
                            have hfz59_9 := blk_frozen BK121.out 9
                            have hfz59_10 := blk_frozen BK121.out 10
                            have hfz59_11 := blk_frozen BK121.out 11
                            have hfz59_12 := blk_frozen BK121.out 12
                            have hfz59_13 := blk_frozen BK121.out 13
                            have hfz59_14 := blk_frozen BK121.out 14
                            have hfz59_15 := blk_frozen BK121.out 15
                            have hfz59_16 := blk_frozen BK121.out 16
                            go_wp2_with (first | ((with_reducible refine gate_callee (f := 75) rfl ?_); refine goesL_ (some 74) rfl rfl Try.func75 (by kernel_rfl) rfl #[.int .i64 a0_3, .int .i64 0, .int .i64 15] rfl (by (try simp only [List.map_toArray, List.map_cons, List.map_nil]); first | done | rfl | (simp only [List.length_drop, List.length_take]; rfl)) ?_; (with_reducible refine (spec_l5in.calls a0_3 0 15 t148 _ A58.out).mono ?_); rintro e w' ⟨rfl, ⟨nd, rfl⟩⟩; refine ⟨_, rfl, ?_⟩))
                            go_ret
                            exact ⟨by first | rfl | (simp [errW_none, errW_some] <;> rfl) | (simp [*, errW_none, errW_some] <;> rfl), by repeat (first | (with_reducible first | exact HB.out | apply below_alloc | apply pw_below_drewN | apply below_drew1 | refine below_set ?_ GE121.out) | exact HB.out)⟩
                          · rw [if_neg c57] at H
                            have c57b0 : (a0_0 == 11) = false := beq_eq_false_iff_ne.mpr c57
                            have c57b1 : (a0_0 != 11) = true := bne_iff_ne.mpr c57
                            by_cases c60 : a0_0 = 12
                            · rw [if_pos c60] at H
                              have c60b0 : (a0_0 == 12) = true := beq_iff_eq.mpr c60
                              have c60b1 : (a0_0 != 12) = false := bne_eq_false_iff_eq.mpr c60
                              clear c60
                              obtain rfl := Option.some.inj H
                              have hcz61_0 : wc.cell? ⟨gb121, 0, none⟩ = some (.int .i64 a0_0) := (blk_cell BK121.out 0).trans rfl
                              have hcz61_1 : wc.cell? ⟨gb121, 1, none⟩ = some (.int .i64 a0_1) := (blk_cell BK121.out 1).trans rfl
                              have hcz61_2 : wc.cell? ⟨gb121, 2, none⟩ = some (.int .i64 a0_2) := (blk_cell BK121.out 2).trans rfl
                              have hcz61_3 : wc.cell? ⟨gb121, 3, none⟩ = some (.int .i64 a0_3) := (blk_cell BK121.out 3).trans rfl
                              have hcz61_4 : wc.cell? ⟨gb121, 4, none⟩ = some (.int .i64 a0_4) := (blk_cell BK121.out 4).trans rfl
                              have hcz61_5 : wc.cell? ⟨gb121, 5, none⟩ = some (.int .i64 a0_5) := (blk_cell BK121.out 5).trans rfl
                              have hcz61_6 : wc.cell? ⟨gb121, 6, none⟩ = some (.float .f64 a0_6) := (blk_cell BK121.out 6).trans rfl
                              have hcz61_7 : wc.cell? ⟨gb121, 7, none⟩ = some (.slice A0_7 l0_7.length c0_7) := (blk_cell BK121.out 7).trans rfl
                              have hcz61_8 : wc.cell? ⟨gb121, 8, none⟩ = some (.int .i64 a0_8) := (blk_cell BK121.out 8).trans rfl
                              have hcz61_9 : wc.cell? ⟨gb121, 9, none⟩ = some (.int .i64 a0_9) := (blk_cell BK121.out 9).trans rfl
                              have hcz61_10 : wc.cell? ⟨gb121, 10, none⟩ = some (.float .f64 a0_10) := (blk_cell BK121.out 10).trans rfl
                              have hcz61_11 : wc.cell? ⟨gb121, 11, none⟩ = some (.slice A0_11 l0_11.length c0_11) := (blk_cell BK121.out 11).trans rfl
                              have hcz61_12 : wc.cell? ⟨gb121, 12, none⟩ = some (.int .i64 a0_12) := (blk_cell BK121.out 12).trans rfl
                              have hcz61_13 : wc.cell? ⟨gb121, 13, none⟩ = some (.int .i64 a0_13) := (blk_cell BK121.out 13).trans rfl
                              have hcz61_14 : wc.cell? ⟨gb121, 14, none⟩ = some (.float .f64 a0_14) := (blk_cell BK121.out 14).trans rfl
                              have hcz61_15 : wc.cell? ⟨gb121, 15, none⟩ = some (.slice A0_15 l0_15.length c0_15) := (blk_cell BK121.out 15).trans rfl
                              have hcz61_16 : wc.cell? ⟨gb121, 16, none⟩ = some (.slice A0_16 l0_16.length c0_16) := (blk_cell BK121.out 16).trans rfl
                              have hfz61_0 := blk_frozen BK121.out 0
                              have hfz61_1 := blk_frozen BK121.out 1
                              have hfz61_2 := blk_frozen BK121.out 2
                              have hfz61_3 := blk_frozen BK121.out 3
                              have hfz61_4 := blk_frozen BK121.out 4
                              have hfz61_5 := blk_frozen BK121.out 5
                              have hfz61_6 := blk_frozen BK121.out 6
                              have hfz61_7 := blk_frozen BK121.out 7
                              have hfz61_8 := blk_frozen BK121.out 8
                              have hfz61_9 := blk_frozen BK121.out 9
                              have hfz61_10 := blk_frozen BK121.out 10
                              have hfz61_11 := blk_frozen BK121.out 11
                              have hfz61_12 := blk_frozen BK121.out 12
                              have hfz61_13 := blk_frozen BK121.out 13
                              have hfz61_14 := blk_frozen BK121.out 14
                              have hfz61_15 := blk_frozen BK121.out 15
                              have hfz61_16 := blk_frozen BK121.out 16
                              go_wp2
                              go_ret
                              exact ⟨by first | rfl | (simp [errW_none, errW_some] <;> rfl) | (simp [*, errW_none, errW_some] <;> rfl), by repeat (first | (with_reducible first | exact HB.out | apply below_alloc | apply pw_below_drewN | apply below_drew1 | refine below_set ?_ GE121.out) | exact HB.out)⟩
                            · rw [if_neg c60] at H
                              have c60b0 : (a0_0 == 12) = false := beq_eq_false_iff_ne.mpr c60
                              have c60b1 : (a0_0 != 12) = true := bne_iff_ne.mpr c60
                              by_cases c62 : a0_0 = 13
                              · rw [if_pos c62] at H
                                have c62b0 : (a0_0 == 13) = true := beq_iff_eq.mpr c62
                                have c62b1 : (a0_0 != 13) = false := bne_eq_false_iff_eq.mpr c62
                                clear c62
                                obtain rfl := Option.some.inj H
                                have hcz63_0 : wc.cell? ⟨gb121, 0, none⟩ = some (.int .i64 a0_0) := (blk_cell BK121.out 0).trans rfl
                                have hcz63_1 : wc.cell? ⟨gb121, 1, none⟩ = some (.int .i64 a0_1) := (blk_cell BK121.out 1).trans rfl
                                have hcz63_2 : wc.cell? ⟨gb121, 2, none⟩ = some (.int .i64 a0_2) := (blk_cell BK121.out 2).trans rfl
                                have hcz63_3 : wc.cell? ⟨gb121, 3, none⟩ = some (.int .i64 a0_3) := (blk_cell BK121.out 3).trans rfl
                                have hcz63_4 : wc.cell? ⟨gb121, 4, none⟩ = some (.int .i64 a0_4) := (blk_cell BK121.out 4).trans rfl
                                have hcz63_5 : wc.cell? ⟨gb121, 5, none⟩ = some (.int .i64 a0_5) := (blk_cell BK121.out 5).trans rfl
                                have hcz63_6 : wc.cell? ⟨gb121, 6, none⟩ = some (.float .f64 a0_6) := (blk_cell BK121.out 6).trans rfl
                                have hcz63_7 : wc.cell? ⟨gb121, 7, none⟩ = some (.slice A0_7 l0_7.length c0_7) := (blk_cell BK121.out 7).trans rfl
                                have hcz63_8 : wc.cell? ⟨gb121, 8, none⟩ = some (.int .i64 a0_8) := (blk_cell BK121.out 8).trans rfl
                                have hcz63_9 : wc.cell? ⟨gb121, 9, none⟩ = some (.int .i64 a0_9) := (blk_cell BK121.out 9).trans rfl
                                have hcz63_10 : wc.cell? ⟨gb121, 10, none⟩ = some (.float .f64 a0_10) := (blk_cell BK121.out 10).trans rfl
                                have hcz63_11 : wc.cell? ⟨gb121, 11, none⟩ = some (.slice A0_11 l0_11.length c0_11) := (blk_cell BK121.out 11).trans rfl
                                have hcz63_12 : wc.cell? ⟨gb121, 12, none⟩ = some (.int .i64 a0_12) := (blk_cell BK121.out 12).trans rfl
                                have hcz63_13 : wc.cell? ⟨gb121, 13, none⟩ = some (.int .i64 a0_13) := (blk_cell BK121.out 13).trans rfl
                                have hcz63_14 : wc.cell? ⟨gb121, 14, none⟩ = some (.float .f64 a0_14) := (blk_cell BK121.out 14).trans rfl
                                have hcz63_15 : wc.cell? ⟨gb121, 15, none⟩ = some (.slice A0_15 l0_15.length c0_15) := (blk_cell BK121.out 15).trans rfl
                                have hcz63_16 : wc.cell? ⟨gb121, 16, none⟩ = some (.slice A0_16 l0_16.length c0_16) := (blk_cell BK121.out 16).trans rfl
                                have hfz63_0 := blk_frozen BK121.out 0
                                have hfz63_1 := blk_frozen BK121.out 1
                                have hfz63_2 := blk_frozen BK121.out 2
                                have hfz63_3 := blk_frozen BK121.out 3
                                have hfz63_4 := blk_frozen BK121.out 4
                                have hfz63_5 := blk_frozen BK121.out 5
                                have hfz63_6 := blk_frozen BK121.out 6
                                have hfz63_7 := blk_frozen BK121.out 7
                                have hfz63_8 := blk_frozen BK121.out 8
                                have hfz63_9 := blk_frozen BK121.out 9
                                have hfz63_10 := blk_frozen BK121.out 10
                                have hfz63_11 := blk_frozen BK121.out 11
                                have hfz63_12 := blk_frozen BK121.out 12
                                have hfz63_13 := blk_frozen BK121.out 13
                                have hfz63_14 := blk_frozen BK121.out 14
                                have hfz63_15 := blk_frozen BK121.out 15
                                have hfz63_16 := blk_frozen BK121.out 16
                                go_wp2
                                go_ret
                                exact ⟨by first | rfl | (simp [errW_none, errW_some] <;> rfl) | (simp [*, errW_none, errW_some] <;> rfl), by repeat (first | (with_reducible first | exact HB.out | apply below_alloc | apply pw_below_drewN | apply below_drew1 | refine below_set ?_ GE121.out) | exact HB.out)⟩
                              · rw [if_neg c62] at H
                                have c62b0 : (a0_0 == 13) = false := beq_eq_false_iff_ne.mpr c62
                                have c62b1 : (a0_0 != 13) = true := bne_iff_ne.mpr c62
                                obtain rfl := Option.some.inj H
                                have hcz64_0 : wc.cell? ⟨gb121, 0, none⟩ = some (.int .i64 a0_0) := (blk_cell BK121.out 0).trans rfl
                                have hcz64_1 : wc.cell? ⟨gb121, 1, none⟩ = some (.int .i64 a0_1) := (blk_cell BK121.out 1).trans rfl
                                have hcz64_2 : wc.cell? ⟨gb121, 2, none⟩ = some (.int .i64 a0_2) := (blk_cell BK121.out 2).trans rfl
                                have hcz64_3 : wc.cell? ⟨gb121, 3, none⟩ = some (.int .i64 a0_3) := (blk_cell BK121.out 3).trans rfl
                                have hcz64_4 : wc.cell? ⟨gb121, 4, none⟩ = some (.int .i64 a0_4) := (blk_cell BK121.out 4).trans rfl
                                have hcz64_5 : wc.cell? ⟨gb121, 5, none⟩ = some (.int .i64 a0_5) := (blk_cell BK121.out 5).trans rfl
                                have hcz64_6 : wc.cell? ⟨gb121, 6, none⟩ = some (.float .f64 a0_6) := (blk_cell BK121.out 6).trans rfl
                                have hcz64_7 : wc.cell? ⟨gb121, 7, none⟩ = some (.slice A0_7 l0_7.length c0_7) := (blk_cell BK121.out 7).trans rfl
                                have hcz64_8 : wc.cell? ⟨gb121, 8, none⟩ = some (.int .i64 a0_8) := (blk_cell BK121.out 8).trans rfl
                                have hcz64_9 : wc.cell? ⟨gb121, 9, none⟩ = some (.int .i64 a0_9) := (blk_cell BK121.out 9).trans rfl
                                have hcz64_10 : wc.cell? ⟨gb121, 10, none⟩ = some (.float .f64 a0_10) := (blk_cell BK121.out 10).trans rfl
                                have hcz64_11 : wc.cell? ⟨gb121, 11, none⟩ = some (.slice A0_11 l0_11.length c0_11) := (blk_cell BK121.out 11).trans rfl
                                have hcz64_12 : wc.cell? ⟨gb121, 12, none⟩ = some (.int .i64 a0_12) := (blk_cell BK121.out 12).trans rfl
                                have hcz64_13 : wc.cell? ⟨gb121, 13, none⟩ = some (.int .i64 a0_13) := (blk_cell BK121.out 13).trans rfl
                                have hcz64_14 : wc.cell? ⟨gb121, 14, none⟩ = some (.float .f64 a0_14) := (blk_cell BK121.out 14).trans rfl
                                have hcz64_15 : wc.cell? ⟨gb121, 15, none⟩ = some (.slice A0_15 l0_15.length c0_15) := (blk_cell BK121.out 15).trans rfl
                                have hcz64_16 : wc.cell? ⟨gb121, 16, none⟩ = some (.slice A0_16 l0_16.length c0_16) := (blk_cell BK121.out 16).trans rfl
                                have hfz64_0 := blk_frozen BK121.out 0
                                have hfz64_1 := blk_frozen BK121.out 1
                                have hfz64_2 := blk_frozen BK121.out 2
                                have hfz64_3 := blk_frozen BK121.out 3
                                have hfz64_4 := blk_frozen BK121.out 4
                                have hfz64_5 := blk_frozen BK121.out 5
                                have hfz64_6 := blk_frozen BK121.out 6
                                have hfz64_7 := blk_frozen BK121.out 7
                                have hfz64_8 := blk_frozen BK121.out 8
                                have hfz64_9 := blk_frozen BK121.out 9
                                have hfz64_10 := blk_frozen BK121.out 10
                                have hfz64_11 := blk_frozen BK121.out 11
                                have hfz64_12 := blk_frozen BK121.out 12
                                have hfz64_13 := blk_frozen BK121.out 13
                                have hfz64_14 := blk_frozen BK121.out 14
                                have hfz64_15 := blk_frozen BK121.out 15
                                have hfz64_16 := blk_frozen BK121.out 16
                                go_wp2
                                go_ret
                                exact ⟨by first | rfl | (simp [errW_none, errW_some] <;> rfl) | (simp [*, errW_none, errW_some] <;> rfl), by repeat (first | (with_reducible first | exact HB.out | apply below_alloc | apply pw_below_drewN | apply below_drew1 | refine below_set ?_ GE121.out) | exact HB.out)⟩

end Go.Proofs.Ytjmlbkhcjgehdaa.PFnExactOpOk
