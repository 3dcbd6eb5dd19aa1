-- Written by hv.py, a program of this session's own, over the kit's print: FnExactOpOk
import Derived.Test.YtjmlbkhcjgehdaaPFnExactOpOkx0
namespace Go.Proofs.Ytjmlbkhcjgehdaa.PFnExactOpOk
open Go.RowKit Go.Proofs.YtjmlbkhcjgehdaaW.PrintWords Go.Proofs.YtjmlbkhcjgehdaaW.PrintLast Go.Proofs.YtjmlbkhcjgehdaaW.PrintMore Go.Proofs.Ytjmlbkhcjgehdaa.HFl Go.Proofs.Ytjmlbkhcjgehdaa.HMap Go.Proofs.Ytjmlbkhcjgehdaa.HMore Go.Proofs.Ytjmlbkhcjgehdaa
attribute [local go_sem] max2_int min2_int max_two min_two max_three min_three max_four min_four   -- for this text's walks alone
set_option linter.unusedVariables false
set_option linter.unusedSimpArgs false

/-! ### laws_szByteS: function 60 -/
def laws_szByteS.f (l0 : List Int) (a1 : Int) : Option (Int) := if (wrap64 (a1 - (l0.length : Int))) < 0 then (some (-1)) else (some (wrap64 (a1 - (l0.length : Int))))
set_option maxHeartbeats 8000000 in
set_option maxRecDepth 100000 in
theorem laws_szByteS.calls (A0 : Option Addr) (c0 : Nat) (l0 : List Int) (a1 : Int) (r : Int) (w : World) (hr0 : Kd.C (Kd.int .u8) w A0 l0.length l0) (hc0 : l0.length ≤ c0) (h : laws_szByteS.f l0 a1 = some r) :
    Calls Try.prog 60 #[.slice A0 l0.length c0, .int .i64 a1] w fun e w' => e = .returned (.int .i64 r) ∧ Drawn0 w w' := by
  have HR0 := Aside0.mk hr0
  have HC0 := Aside0.mk hc0
  clear hr0 hc0
  have H : (if (wrap64 (a1 - (l0.length : Int))) < 0 then (some (-1)) else (some (wrap64 (a1 - (l0.length : Int))))) = some r := h
  clear h
  by_cases c3 : (wrap64 (a1 - (l0.length : Int))) < 0
  · rw [if_pos c3] at H
    have c3b0 : decide ((wrap64 (a1 - (l0.length : Int))) < 0) = true := decide_eq_true c3
    clear c3
    obtain rfl := Option.some.inj H
    go_enter Try.func60, Try.ntmps60
    go_wp2
    go_ret
    exact ⟨by first | rfl | (simp; done) | (simp [*]; done), by repeat (first | exact Drawn0.refl _ | apply Drawn0.step)⟩
  · rw [if_neg c3] at H
    have c3b0 : decide ((wrap64 (a1 - (l0.length : Int))) < 0) = false := decide_eq_false c3
    clear c3
    obtain rfl := Option.some.inj H
    go_enter Try.func60, Try.ntmps60
    go_wp2
    go_ret
    exact ⟨by first | rfl | (simp; done) | (simp [*]; done), by repeat (first | exact Drawn0.refl _ | apply Drawn0.step)⟩

/-! ### laws_szItem: function 13 -/
def laws_szItem.f (a0_0 : Int) (a0_1 : Int) (a0_2 : Nat) (l0_3 : List Int) (a1 : Int) : Option (Int) := (laws_szByteS.f l0_3 a1).bind fun t102 => (if t102 < 0 then (some (-1)) else (some t102))
set_option maxHeartbeats 8000000 in
set_option maxRecDepth 100000 in
theorem laws_szItem.calls (a0_0 : Int) (a0_1 : Int) (a0_2 : Nat) (A0_3 : Option Addr) (c0_3 : Nat) (l0_3 : List Int) (a1 : Int) (r : Int) (w : World) (hr0_3 : Kd.C (Kd.int .u8) w A0_3 l0_3.length l0_3) (hc0_3 : l0_3.length ≤ c0_3) (h : laws_szItem.f a0_0 a0_1 a0_2 l0_3 a1 = some r) :
    Calls Try.prog 13 #[.agg #[.int .i64 a0_0, .int .i64 a0_1, .float .f64 a0_2, .slice A0_3 l0_3.length c0_3], .int .i64 a1] w fun e w' => e = .returned (.int .i64 r) ∧ Below w.heap.size w w' := by
  have hu25 := Try.underlying25
  have HR0_3 := Aside0.mk hr0_3
  have HC0_3 := Aside0.mk hc0_3
  clear hr0_3 hc0_3
  have HB := Aside0.mk (Below.refl w.heap.size w)
  have H : ((laws_szByteS.f l0_3 a1).bind fun t102 => (if t102 < 0 then (some (-1)) else (some t102))) = some r := h
  clear h
  replace H := Option.bind_eq_some_iff.mp H
  obtain ⟨t102, A30, H⟩ := H
  replace H : (if t102 < 0 then (some (-1)) else (some t102)) = some r := H
  have A3 := Aside0.mk A30
  clear A30
  by_cases c4 : t102 < 0
  · rw [if_pos c4] at H
    have c4b0 : decide (t102 < 0) = true := decide_eq_true c4
    clear c4
    obtain rfl := Option.some.inj H
    go_enter Try.func13, Try.ntmps13
    go_wp2_with (first | ((with_reducible refine gate_dst (N := 2) rfl ?_); refine box_event ?hg (N := 2) ?hd (cs := #[.int .i64 a0_0, .int .i64 a0_1, .float .f64 a0_2, .slice A0_3 l0_3.length c0_3]) (t := 25) ?hr ?_; (case hd => rfl); (case hg => rfl); (case hr => first | (go_simp; done) | (go_simp; rfl)); intro gb101 hg w5 hbox hb; have n0_ := Aside0.mk (below_step (by repeat (first | (with_reducible first | exact HB.out | apply below_alloc | apply pw_below_drewN | apply below_drew1) | exact HB.out)) hb); have n1_ := Aside0.mk (hbox); have n2_ := Aside0.mk ((by rw [hg]; exact (below_size (by repeat (first | (with_reducible first | exact HB.out | apply below_alloc | apply pw_below_drewN | apply below_drew1) | exact HB.out))) : w.heap.size ≤ gb101)); have n3_ := Aside0.mk ((by rw [hg]; exact (below_size (by repeat (first | (with_reducible first | exact HB.out | apply below_alloc | apply pw_below_drewN | apply below_drew1) | exact HB.out))) : w.heap.size ≤ gb101)); clear HB; have HB := n0_; have BK101 := n1_; have GW101 := n2_; have GE101 := n3_; clear n0_ n1_ n2_ n3_; clear hb hbox hg; have hcz6_0 : w5.cell? ⟨gb101, 0, none⟩ = some (.int .i64 a0_0) := (blk_cell BK101.out 0).trans rfl; have hcz6_1 : w5.cell? ⟨gb101, 1, none⟩ = some (.int .i64 a0_1) := (blk_cell BK101.out 1).trans rfl; have hcz6_2 : w5.cell? ⟨gb101, 2, none⟩ = some (.float .f64 a0_2) := (blk_cell BK101.out 2).trans rfl; have hcz6_3 : w5.cell? ⟨gb101, 3, none⟩ = some (.slice A0_3 l0_3.length c0_3) := (blk_cell BK101.out 3).trans rfl; have hfz6_0 := blk_frozen BK101.out 0; have hfz6_1 := blk_frozen BK101.out 1; have hfz6_2 := blk_frozen BK101.out 2; have hfz6_3 := blk_frozen BK101.out 3) | ((with_reducible refine gate_callee (f := 60) rfl ?_); refine goesL_ (some 8) rfl rfl Try.func60 (by kernel_rfl) rfl #[.slice A0_3 l0_3.length c0_3, .int .i64 a1] rfl (by (try simp only [List.map_toArray, List.map_cons, List.map_nil]); first | done | rfl | (simp only [List.length_drop, List.length_take]; rfl)) ?_; (with_reducible refine (laws_szByteS.calls _ _ l0_3 a1 t102 _ ?side1 ?side2 A3.out).mono ?_); (case side1 => repeat (first | exact (Kd.C_below HR0_3.out HB.out) | (with_reducible refine Kd.C_alloc ?_ _) | (with_reducible refine Kd.C_drewN ?_ _) | (with_reducible refine Kd.C_drew ?_))); (case side2 => exact HC0_3.out); rintro e w' ⟨rfl, ⟨nd, rfl⟩⟩; refine ⟨_, rfl, ?_⟩))
    go_ret
    exact ⟨by first | rfl | (simp [errW_none, errW_some] <;> rfl) | (simp [*, errW_none, errW_some] <;> rfl), by repeat (first | (with_reducible first | exact HB.out | apply below_alloc | apply pw_below_drewN | apply below_drew1 | refine below_set ?_ GE101.out) | exact HB.out)⟩
  · rw [if_neg c4] at H
    have c4b0 : decide (t102 < 0) = false := decide_eq_false c4
    clear c4
    obtain rfl := Option.some.inj H
    go_enter Try.func13, Try.ntmps13
    go_wp2_with (first | ((with_reducible refine gate_dst (N := 2) rfl ?_); refine box_event ?hg (N := 2) ?hd (cs := #[.int .i64 a0_0, .int .i64 a0_1, .float .f64 a0_2, .slice A0_3 l0_3.length c0_3]) (t := 25) ?hr ?_; (case hd => rfl); (case hg => rfl); (case hr => first | (go_simp; done) | (go_simp; rfl)); intro gb101 hg w7 hbox hb; have n0_ := Aside0.mk (below_step (by repeat (first | (with_reducible first | exact HB.out | apply below_alloc | apply pw_below_drewN | apply below_drew1) | exact HB.out)) hb); have n1_ := Aside0.mk (hbox); have n2_ := Aside0.mk ((by rw [hg]; exact (below_size (by repeat (first | (with_reducible first | exact HB.out | apply below_alloc | apply pw_below_drewN | apply below_drew1) | exact HB.out))) : w.heap.size ≤ gb101)); have n3_ := Aside0.mk ((by rw [hg]; exact (below_size (by repeat (first | (with_reducible first | exact HB.out | apply below_alloc | apply pw_below_drewN | apply below_drew1) | exact HB.out))) : w.heap.size ≤ gb101)); clear HB; have HB := n0_; have BK101 := n1_; have GW101 := n2_; have GE101 := n3_; clear n0_ n1_ n2_ n3_; clear hb hbox hg; have hcz8_0 : w7.cell? ⟨gb101, 0, none⟩ = some (.int .i64 a0_0) := (blk_cell BK101.out 0).trans rfl; have hcz8_1 : w7.cell? ⟨gb101, 1, none⟩ = some (.int .i64 a0_1) := (blk_cell BK101.out 1).trans rfl; have hcz8_2 : w7.cell? ⟨gb101, 2, none⟩ = some (.float .f64 a0_2) := (blk_cell BK101.out 2).trans rfl; have hcz8_3 : w7.cell? ⟨gb101, 3, none⟩ = some (.slice A0_3 l0_3.length c0_3) := (blk_cell BK101.out 3).trans rfl; have hfz8_0 := blk_frozen BK101.out 0; have hfz8_1 := blk_frozen BK101.out 1; have hfz8_2 := blk_frozen BK101.out 2; have hfz8_3 := blk_frozen BK101.out 3) | ((with_reducible refine gate_callee (f := 60) rfl ?_); refine goesL_ (some 8) rfl rfl Try.func60 (by kernel_rfl) rfl #[.slice A0_3 l0_3.length c0_3, .int .i64 a1] rfl (by (try simp only [List.map_toArray, List.map_cons, List.map_nil]); first | done | rfl | (simp only [List.length_drop, List.length_take]; rfl)) ?_; (with_reducible refine (laws_szByteS.calls _ _ l0_3 a1 t102 _ ?side1 ?side2 A3.out).mono ?_); (case side1 => repeat (first | exact (Kd.C_below HR0_3.out HB.out) | (with_reducible refine Kd.C_alloc ?_ _) | (with_reducible refine Kd.C_drewN ?_ _) | (with_reducible refine Kd.C_drew ?_))); (case side2 => exact HC0_3.out); rintro e w' ⟨rfl, ⟨nd, rfl⟩⟩; refine ⟨_, rfl, ?_⟩))
    go_ret
    exact ⟨by first | rfl | (simp [errW_none, errW_some] <;> rfl) | (simp [*, errW_none, errW_some] <;> rfl), by repeat (first | (with_reducible first | exact HB.out | apply below_alloc | apply pw_below_drewN | apply below_drew1 | refine below_set ?_ GE101.out) | exact HB.out)⟩

/-! ### laws_szBoolS: function 74 -/
def laws_szBoolS.f (l0 : List Bool) (a1 : Int) : Option (Int) := if (wrap64 (a1 - (l0.length : Int))) < 0 then (some (-1)) else (some (wrap64 (a1 - (l0.length : Int))))
set_option maxHeartbeats 8000000 in
set_option maxRecDepth 100000 in
theorem laws_szBoolS.calls (A0 : Option Addr) (c0 : Nat) (l0 : List Bool) (a1 : Int) (r : Int) (w : World) (hr0 : Kd.C Kd.bool w A0 l0.length l0) (hc0 : l0.length ≤ c0) (h : laws_szBoolS.f l0 a1 = some r) :
    Calls Try.prog 74 #[.slice A0 l0.length c0, .int .i64 a1] w fun e w' => e = .returned (.int .i64 r) ∧ Drawn0 w w' := by
  have HR0 := Aside0.mk hr0
  have HC0 := Aside0.mk hc0
  clear hr0 hc0
  have H : (if (wrap64 (a1 - (l0.length : Int))) < 0 then (some (-1)) else (some (wrap64 (a1 - (l0.length : Int))))) = some r := h
  clear h
  by_cases c3 : (wrap64 (a1 - (l0.length : Int))) < 0
  · rw [if_pos c3] at H
    have c3b0 : decide ((wrap64 (a1 - (l0.length : Int))) < 0) = true := decide_eq_true c3
    clear c3
    obtain rfl := Option.some.inj H
    go_enter Try.func74, Try.ntmps74
    go_wp2
    go_ret
    exact ⟨by first | rfl | (simp; done) | (simp [*]; done), by repeat (first | exact Drawn0.refl _ | apply Drawn0.step)⟩
  · rw [if_neg c3] at H
    have c3b0 : decide ((wrap64 (a1 - (l0.length : Int))) < 0) = false := decide_eq_false c3
    clear c3
    obtain rfl := Option.some.inj H
    go_enter Try.func74, Try.ntmps74
    go_wp2
    go_ret
    exact ⟨by first | rfl | (simp; done) | (simp [*]; done), by repeat (first | exact Drawn0.refl _ | apply Drawn0.step)⟩

/-! ### laws_szOp: function 25 -/
def laws_szOp.f (a0_0 : Int) (a0_1 : Int) (a0_2 : Int) (a0_3 : Int) (a0_4 : Int) (a0_5 : Int) (a0_6 : Nat) (l0_7 : List Int) (a0_8 : Int) (a0_9 : Int) (a0_10 : Nat) (l0_11 : List Int) (a0_12 : Int) (a0_13 : Int) (a0_14 : Nat) (l0_15 : List Int) (l0_16 : List Bool) (a1 : Int) : Option (Int) := (laws_szItem.f a0_4 a0_5 a0_6 l0_7 a1).bind fun t104 => (if t104 < 0 then (some (-1)) else ((laws_szItem.f a0_8 a0_9 a0_10 l0_11 t104).bind fun t105 => (if t105 < 0 then (some (-1)) else ((laws_szItem.f a0_12 a0_13 a0_14 l0_15 t105).bind fun t106 => (if t106 < 0 then (some (-1)) else ((laws_szBoolS.f l0_16 t106).bind fun t107 => (if t107 < 0 then (some (-1)) else (some t107))))))))
set_option maxHeartbeats 8000000 in
set_option maxRecDepth 100000 in
theorem laws_szOp.calls (a0_0 : Int) (a0_1 : Int) (a0_2 : Int) (a0_3 : Int) (a0_4 : Int) (a0_5 : Int) (a0_6 : Nat) (A0_7 : Option Addr) (c0_7 : Nat) (l0_7 : List Int) (a0_8 : Int) (a0_9 : Int) (a0_10 : Nat) (A0_11 : Option Addr) (c0_11 : Nat) (l0_11 : List Int) (a0_12 : Int) (a0_13 : Int) (a0_14 : Nat) (A0_15 : Option Addr) (c0_15 : Nat) (l0_15 : List Int) (A0_16 : Option Addr) (c0_16 : Nat) (l0_16 : List Bool) (a1 : Int) (r : Int) (w : World) (hr0_7 : Kd.C (Kd.int .u8) w A0_7 l0_7.length l0_7) (hc0_7 : l0_7.length ≤ c0_7) (hr0_11 : Kd.C (Kd.int .u8) w A0_11 l0_11.length l0_11) (hc0_11 : l0_11.length ≤ c0_11) (hr0_15 : Kd.C (Kd.int .u8) w A0_15 l0_15.length l0_15) (hc0_15 : l0_15.length ≤ c0_15) (hr0_16 : Kd.C Kd.bool w A0_16 l0_16.length l0_16) (hc0_16 : l0_16.length ≤ c0_16) (h : laws_szOp.f a0_0 a0_1 a0_2 a0_3 a0_4 a0_5 a0_6 l0_7 a0_8 a0_9 a0_10 l0_11 a0_12 a0_13 a0_14 l0_15 l0_16 a1 = some r) :
    Calls Try.prog 25 #[.agg #[.int .i64 a0_0, .int .i64 a0_1, .int .i64 a0_2, .int .i64 a0_3, .int .i64 a0_4, .int .i64 a0_5, .float .f64 a0_6, .slice A0_7 l0_7.length c0_7, .int .i64 a0_8, .int .i64 a0_9, .float .f64 a0_10, .slice A0_11 l0_11.length c0_11, .int .i64 a0_12, .int .i64 a0_13, .float .f64 a0_14, .slice A0_15 l0_15.length c0_15, .slice A0_16 l0_16.length c0_16], .int .i64 a1] w fun e w' => e = .returned (.int .i64 r) ∧ Below w.heap.size w w' := by
  have hu44 := Try.underlying44
  have hu25 := Try.underlying25
  have HR0_7 := Aside0.mk hr0_7
  have HC0_7 := Aside0.mk hc0_7
  clear hr0_7 hc0_7
  have HR0_11 := Aside0.mk hr0_11
  have HC0_11 := Aside0.mk hc0_11
  clear hr0_11 hc0_11
  have HR0_15 := Aside0.mk hr0_15
  have HC0_15 := Aside0.mk hc0_15
  clear hr0_15 hc0_15
  have HR0_16 := Aside0.mk hr0_16
  have HC0_16 := Aside0.mk hc0_16
  clear hr0_16 hc0_16
  have HB := Aside0.mk (Below.refl w.heap.size w)
  have H : ((laws_szItem.f a0_4 a0_5 a0_6 l0_7 a1).bind fun t104 => (if t104 < 0 then (some (-1)) else ((laws_szItem.f a0_8 a0_9 a0_10 l0_11 t104).bind fun t105 => (if t105 < 0 then (some (-1)) else ((laws_szItem.f a0_12 a0_13 a0_14 l0_15 t105).bind fun t106 => (if t106 < 0 then (some (-1)) else ((laws_szBoolS.f l0_16 t106).bind fun t107 => (if t107 < 0 then (some (-1)) else (some t107))))))))) = some r := h
  clear h
  replace H := Option.bind_eq_some_iff.mp H
  obtain ⟨t104, A30, H⟩ := H
  replace H : (if t104 < 0 then (some (-1)) else ((laws_szItem.f a0_8 a0_9 a0_10 l0_11 t104).bind fun t105 => (if t105 < 0 then (some (-1)) else ((laws_szItem.f a0_12 a0_13 a0_14 l0_15 t105).bind fun t106 => (if t106 < 0 then (some (-1)) else ((laws_szBoolS.f l0_16 t106).bind fun t107 => (if t107 < 0 then (some (-1)) else (some t107)))))))) = some r := H
  have A3 := Aside0.mk A30
  clear A30
  by_cases c4 : t104 < 0
  · rw [if_pos c4] at H
    have c4b0 : decide (t104 < 0) = true := decide_eq_true c4
    clear c4
    obtain rfl := Option.some.inj H
    go_enter Try.func25, Try.ntmps25
    go_wp2_with (first | ((with_reducible refine gate_dst (N := 2) rfl ?_); refine box_event ?hg (N := 2) ?hd (cs := #[.int .i64 a0_0, .int .i64 a0_1, .int .i64 a0_2, .int .i64 a0_3, .int .i64 a0_4, .int .i64 a0_5, .float .f64 a0_6, .slice A0_7 l0_7.length c0_7, .int .i64 a0_8, .int .i64 a0_9, .float .f64 a0_10, .slice A0_11 l0_11.length c0_11, .int .i64 a0_12, .int .i64 a0_13, .float .f64 a0_14, .slice A0_15 l0_15.length c0_15, .slice A0_16 l0_16.length c0_16]) (t := 44) ?hr ?_; (case hd => rfl); (case hg => rfl); (case hr => first | (go_simp; done) | (go_simp; rfl)); intro gb103 hg w5 hbox hb; have n0_ := Aside0.mk (below_step (by repeat (first | (with_reducible first | exact HB.out | apply below_alloc | apply pw_below_drewN | apply below_drew1) | exact HB.out)) hb); have n1_ := Aside0.mk (hbox); have n2_ := Aside0.mk ((by rw [hg]; exact (below_size (by repeat (first | (with_reducible first | exact HB.out | apply below_alloc | apply pw_below_drewN | apply below_drew1) | exact HB.out))) : w.heap.size ≤ gb103)); have n3_ := Aside0.mk ((by rw [hg]; exact (below_size (by repeat (first | (with_reducible first | exact HB.out | apply below_alloc | apply pw_below_drewN | apply below_drew1) | exact HB.out))) : w.heap.size ≤ gb103)); clear HB; have HB := n0_; have BK103 := n1_; have GW103 := n2_; have GE103 := n3_; clear n0_ n1_ n2_ n3_; clear hb hbox hg; have hcz6_0 : w5.cell? ⟨gb103, 0, none⟩ = some (.int .i64 a0_0) := (blk_cell BK103.out 0).trans rfl; have hcz6_1 : w5.cell? ⟨gb103, 1, none⟩ = some (.int .i64 a0_1) := (blk_cell BK103.out 1).trans rfl; have hcz6_2 : w5.cell? ⟨gb103, 2, none⟩ = some (.int .i64 a0_2) := (blk_cell BK103.out 2).trans rfl; have hcz6_3 : w5.cell? ⟨gb103, 3, none⟩ = some (.int .i64 a0_3) := (blk_cell BK103.out 3).trans rfl; have hcz6_4 : w5.cell? ⟨gb103, 4, none⟩ = some (.int .i64 a0_4) := (blk_cell BK103.out 4).trans rfl; have hcz6_5 : w5.cell? ⟨gb103, 5, none⟩ = some (.int .i64 a0_5) := (blk_cell BK103.out 5).trans rfl; have hcz6_6 : w5.cell? ⟨gb103, 6, none⟩ = some (.float .f64 a0_6) := (blk_cell BK103.out 6).trans rfl; have hcz6_7 : w5.cell? ⟨gb103, 7, none⟩ = some (.slice A0_7 l0_7.length c0_7) := (blk_cell BK103.out 7).trans rfl; have hcz6_8 : w5.cell? ⟨gb103, 8, none⟩ = some (.int .i64 a0_8) := (blk_cell BK103.out 8).trans rfl; have hcz6_9 : w5.cell? ⟨gb103, 9, none⟩ = some (.int .i64 a0_9) := (blk_cell BK103.out 9).trans rfl; have hcz6_10 : w5.cell? ⟨gb103, 10, none⟩ = some (.float .f64 a0_10) := (blk_cell BK103.out 10).trans rfl; have hcz6_11 : w5.cell? ⟨gb103, 11, none⟩ = some (.slice A0_11 l0_11.length c0_11) := (blk_cell BK103.out 11).trans rfl; have hcz6_12 : w5.cell? ⟨gb103, 12, none⟩ = some (.int .i64 a0_12) := (blk_cell BK103.out 12).trans rfl; have hcz6_13 : w5.cell? ⟨gb103, 13, none⟩ = some (.int .i64 a0_13) := (blk_cell BK103.out 13).trans rfl; have hcz6_14 : w5.cell? ⟨gb103, 14, none⟩ = some (.float .f64 a0_14) := (blk_cell BK103.out 14).trans rfl; have hcz6_15 : w5.cell? ⟨gb103, 15, none⟩ = some (.slice A0_15 l0_15.length c0_15) := (blk_cell BK103.out 15).trans rfl; have hcz6_16 : w5.cell? ⟨gb103, 16, none⟩ = some (.slice A0_16 l0_16.length c0_16) := (blk_cell BK103.out 16).trans rfl; have hfz6_0 := blk_frozen BK103.out 0; have hfz6_1 := blk_frozen BK103.out 1; have hfz6_2 := blk_frozen BK103.out 2; have hfz6_3 := blk_frozen BK103.out 3; have hfz6_4 := blk_frozen BK103.out 4; have hfz6_5 := blk_frozen BK103.out 5; have hfz6_6 := blk_frozen BK103.out 6; have hfz6_7 := blk_frozen BK103.out 7; have hfz6_8 := blk_frozen BK103.out 8; have hfz6_9 := blk_frozen BK103.out 9; have hfz6_10 := blk_frozen BK103.out 10; have hfz6_11 := blk_frozen BK103.out 11; have hfz6_12 := blk_frozen BK103.out 12; have hfz6_13 := blk_frozen BK103.out 13; have hfz6_14 := blk_frozen BK103.out 14; have hfz6_15 := blk_frozen BK103.out 15; have hfz6_16 := blk_frozen BK103.out 16) | ((with_reducible refine gate_callee (f := 13) rfl ?_); refine goesL_ (some 8) rfl rfl Try.func13 (by kernel_rfl) rfl #[.agg #[.int .i64 a0_4, .int .i64 a0_5, .float .f64 a0_6, .slice A0_7 l0_7.length c0_7], .int .i64 a1] rfl (by (try simp only [List.map_toArray, List.map_cons, List.map_nil]); first | done | rfl | (simp only [List.length_drop, List.length_take]; rfl)) ?_; (with_reducible refine (laws_szItem.calls a0_4 a0_5 a0_6 _ _ l0_7 a1 t104 _ ?side1 ?side2 A3.out).mono ?_); (case side1 => repeat (first | exact (Kd.C_below HR0_7.out HB.out) | (with_reducible refine Kd.C_alloc ?_ _) | (with_reducible refine Kd.C_drewN ?_ _) | (with_reducible refine Kd.C_drew ?_))); (case side2 => exact HC0_7.out); rintro e w7 ⟨rfl, hb⟩; refine ⟨_, rfl, ?_⟩; have n0_ := Aside0.mk (blk_below (g := gb103) (o := .cells #[.int .i64 a0_0, .int .i64 a0_1, .int .i64 a0_2, .int .i64 a0_3, .int .i64 a0_4, .int .i64 a0_5, .float .f64 a0_6, .slice A0_7 l0_7.length c0_7, .int .i64 a0_8, .int .i64 a0_9, .float .f64 a0_10, .slice A0_11 l0_11.length c0_11, .int .i64 a0_12, .int .i64 a0_13, .float .f64 a0_14, .slice A0_15 l0_15.length c0_15, .slice A0_16 l0_16.length c0_16] 44 (0, 0)) (by (with_reducible repeat (first | refine blk_drewN ?_ _ | refine blk_drew ?_ | refine blk_alloc ?_ _)); exact BK103.out) hb); have n1_ := Aside0.mk (below_step (by repeat (first | (with_reducible first | exact HB.out | apply below_alloc | apply pw_below_drewN | apply below_drew1 | refine below_set ?_ GE103.out) | exact HB.out)) hb); clear BK103; clear HB; have BK103 := n0_; have HB := n1_; clear n0_ n1_; (try clear hb); (try clear hb2); (try clear hk); (try clear hi)))
    go_ret
    exact ⟨by first | rfl | (simp [errW_none, errW_some] <;> rfl) | (simp [*, errW_none, errW_some] <;> rfl), by repeat (first | (with_reducible first | exact HB.out | apply below_alloc | apply pw_below_drewN | apply below_drew1 | refine below_set ?_ GE103.out) | exact HB.out)⟩
  · rw [if_neg c4] at H
    have c4b0 : decide (t104 < 0) = false := decide_eq_false c4
    clear c4
    replace H := Option.bind_eq_some_iff.mp H
    obtain ⟨t105, A80, H⟩ := H
    replace H : (if t105 < 0 then (some (-1)) else ((laws_szItem.f a0_12 a0_13 a0_14 l0_15 t105).bind fun t106 => (if t106 < 0 then (some (-1)) else ((laws_szBoolS.f l0_16 t106).bind fun t107 => (if t107 < 0 then (some (-1)) else (some t107)))))) = some r := H
    have A8 := Aside0.mk A80
    clear A80
    by_cases c9 : t105 < 0
    · rw [if_pos c9] at H
      have c9b0 : decide (t105 < 0) = true := decide_eq_true c9
      clear c9
      obtain rfl := Option.some.inj H
      go_enter Try.func25, Try.ntmps25
      go_wp2_with (first | ((with_reducible refine gate_dst (N := 2) rfl ?_); refine box_event ?hg (N := 2) ?hd (cs := #[.int .i64 a0_0, .int .i64 a0_1, .int .i64 a0_2, .int .i64 a0_3, .int .i64 a0_4, .int .i64 a0_5, .float .f64 a0_6, .slice A0_7 l0_7.length c0_7, .int .i64 a0_8, .int .i64 a0_9, .float .f64 a0_10, .slice A0_11 l0_11.length c0_11, .int .i64 a0_12, .int .i64 a0_13, .float .f64 a0_14, .slice A0_15 l0_15.length c0_15, .slice A0_16 l0_16.length c0_16]) (t := 44) ?hr ?_; (case hd => rfl); (case hg => rfl); (case hr => first | (go_simp; done) | (go_simp; rfl)); intro gb103 hg w10 hbox hb; have n0_ := Aside0.mk (below_step (by repeat (first | (with_reducible first | exact HB.out | apply below_alloc | apply pw_below_drewN | apply below_drew1) | exact HB.out)) hb); have n1_ := Aside0.mk (hbox); have n2_ := Aside0.mk ((by rw [hg]; exact (below_size (by repeat (first | (with_reducible first | exact HB.out | apply below_alloc | apply pw_below_drewN | apply below_drew1) | exact HB.out))) : w.heap.size ≤ gb103)); have n3_ := Aside0.mk ((by rw [hg]; exact (below_size (by repeat (first | (with_reducible first | exact HB.out | apply below_alloc | apply pw_below_drewN | apply below_drew1) | exact HB.out))) : w.heap.size ≤ gb103)); clear HB; have HB := n0_; have BK103 := n1_; have GW103 := n2_; have GE103 := n3_; clear n0_ n1_ n2_ n3_; clear hb hbox hg; have hcz11_0 : w10.cell? ⟨gb103, 0, none⟩ = some (.int .i64 a0_0) := (blk_cell BK103.out 0).trans rfl; have hcz11_1 : w10.cell? ⟨gb103, 1, none⟩ = some (.int .i64 a0_1) := (blk_cell BK103.out 1).trans rfl; have hcz11_2 : w10.cell? ⟨gb103, 2, none⟩ = some (.int .i64 a0_2) := (blk_cell BK103.out 2).trans rfl; have hcz11_3 : w10.cell? ⟨gb103, 3, none⟩ = some (.int .i64 a0_3) := (blk_cell BK103.out 3).trans rfl; have hcz11_4 : w10.cell? ⟨gb103, 4, none⟩ = some (.int .i64 a0_4) := (blk_cell BK103.out 4).trans rfl; have hcz11_5 : w10.cell? ⟨gb103, 5, none⟩ = some (.int .i64 a0_5) := (blk_cell BK103.out 5).trans rfl; have hcz11_6 : w10.cell? ⟨gb103, 6, none⟩ = some (.float .f64 a0_6) := (blk_cell BK103.out 6).trans rfl; have hcz11_7 : w10.cell? ⟨gb103, 7, none⟩ = some (.slice A0_7 l0_7.length c0_7) := (blk_cell BK103.out 7).trans rfl; have hcz11_8 : w10.cell? ⟨gb103, 8, none⟩ = some (.int .i64 a0_8) := (blk_cell BK103.out 8).trans rfl; have hcz11_9 : w10.cell? ⟨gb103, 9, none⟩ = some (.int .i64 a0_9) := (blk_cell BK103.out 9).trans rfl; have hcz11_10 : w10.cell? ⟨gb103, 10, none⟩ = some (.float .f64 a0_10) := (blk_cell BK103.out 10).trans rfl; have hcz11_11 : w10.cell? ⟨gb103, 11, none⟩ = some (.slice A0_11 l0_11.length c0_11) := (blk_cell BK103.out 11).trans rfl; have hcz11_12 : w10.cell? ⟨gb103, 12, none⟩ = some (.int .i64 a0_12) := (blk_cell BK103.out 12).trans rfl; have hcz11_13 : w10.cell? ⟨gb103, 13, none⟩ = some (.int .i64 a0_13) := (blk_cell BK103.out 13).trans rfl; have hcz11_14 : w10.cell? ⟨gb103, 14, none⟩ = some (.float .f64 a0_14) := (blk_cell BK103.out 14).trans rfl; have hcz11_15 : w10.cell? ⟨gb103, 15, none⟩ = some (.slice A0_15 l0_15.length c0_15) := (blk_cell BK103.out 15).trans rfl; have hcz11_16 : w10.cell? ⟨gb103, 16, none⟩ = some (.slice A0_16 l0_16.length c0_16) := (blk_cell BK103.out 16).trans rfl; have hfz11_0 := blk_frozen BK103.out 0; have hfz11_1 := blk_frozen BK103.out 1; have hfz11_2 := blk_frozen BK103.out 2; have hfz11_3 := blk_frozen BK103.out 3; have hfz11_4 := blk_frozen BK103.out 4; have hfz11_5 := blk_frozen BK103.out 5; have hfz11_6 := blk_frozen BK103.out 6; have hfz11_7 := blk_frozen BK103.out 7; have hfz11_8 := blk_frozen BK103.out 8; have hfz11_9 := blk_frozen BK103.out 9; have hfz11_10 := blk_frozen BK103.out 10; have hfz11_11 := blk_frozen BK103.out 11; have hfz11_12 := blk_frozen BK103.out 12; have hfz11_13 := blk_frozen BK103.out 13; have hfz11_14 := blk_frozen BK103.out 14; have hfz11_15 := blk_frozen BK103.out 15; have hfz11_16 := blk_frozen BK103.out 16) | ((with_reducible refine gate_callee (f := 13) rfl ?_); refine goesL_ (some 8) rfl rfl Try.func13 (by kernel_rfl) rfl #[.agg #[.int .i64 a0_4, .int .i64 a0_5, .float .f64 a0_6, .slice A0_7 l0_7.length c0_7], .int .i64 a1] rfl (by (try simp only [List.map_toArray, List.map_cons, List.map_nil]); first | done | rfl | (simp only [List.length_drop, List.length_take]; rfl)) ?_; (with_reducible refine (laws_szItem.calls a0_4 a0_5 a0_6 _ _ l0_7 a1 t104 _ ?side1 ?side2 A3.out).mono ?_); (case side1 => repeat (first | exact (Kd.C_below HR0_7.out HB.out) | (with_reducible refine Kd.C_alloc ?_ _) | (with_reducible refine Kd.C_drewN ?_ _) | (with_reducible refine Kd.C_drew ?_))); (case side2 => exact HC0_7.out); rintro e w12 ⟨rfl, hb⟩; refine ⟨_, rfl, ?_⟩; have n0_ := Aside0.mk (blk_below (g := gb103) (o := .cells #[.int .i64 a0_0, .int .i64 a0_1, .int .i64 a0_2, .int .i64 a0_3, .int .i64 a0_4, .int .i64 a0_5, .float .f64 a0_6, .slice A0_7 l0_7.length c0_7, .int .i64 a0_8, .int .i64 a0_9, .float .f64 a0_10, .slice A0_11 l0_11.length c0_11, .int .i64 a0_12, .int .i64 a0_13, .float .f64 a0_14, .slice A0_15 l0_15.length c0_15, .slice A0_16 l0_16.length c0_16] 44 (0, 0)) (by (with_reducible repeat (first | refine blk_drewN ?_ _ | refine blk_drew ?_ | refine blk_alloc ?_ _)); exact BK103.out) hb); have n1_ := Aside0.mk (below_step (by repeat (first | (with_reducible first | exact HB.out | apply below_alloc | apply pw_below_drewN | apply below_drew1 | refine below_set ?_ GE103.out) | exact HB.out)) hb); clear BK103; clear HB; have BK103 := n0_; have HB := n1_; clear n0_ n1_; (try clear hb); (try clear hb2); (try clear hk); (try clear hi); have hcz13_0 : w12.cell? ⟨gb103, 0, none⟩ = some (.int .i64 a0_0) := (blk_cell BK103.out 0).trans rfl; have hcz13_1 : w12.cell? ⟨gb103, 1, none⟩ = some (.int .i64 a0_1) := (blk_cell BK103.out 1).trans rfl; have hcz13_2 : w12.cell? ⟨gb103, 2, none⟩ = some (.int .i64 a0_2) := (blk_cell BK103.out 2).trans rfl; have hcz13_3 : w12.cell? ⟨gb103, 3, none⟩ = some (.int .i64 a0_3) := (blk_cell BK103.out 3).trans rfl; have hcz13_4 : w12.cell? ⟨gb103, 4, none⟩ = some (.int .i64 a0_4) := (blk_cell BK103.out 4).trans rfl; have hcz13_5 : w12.cell? ⟨gb103, 5, none⟩ = some (.int .i64 a0_5) := (blk_cell BK103.out 5).trans rfl; have hcz13_6 : w12.cell? ⟨gb103, 6, none⟩ = some (.float .f64 a0_6) := (blk_cell BK103.out 6).trans rfl; have hcz13_7 : w12.cell? ⟨gb103, 7, none⟩ = some (.slice A0_7 l0_7.length c0_7) := (blk_cell BK103.out 7).trans rfl; have hcz13_8 : w12.cell? ⟨gb103, 8, none⟩ = some (.int .i64 a0_8) := (blk_cell BK103.out 8).trans rfl; have hcz13_9 : w12.cell? ⟨gb103, 9, none⟩ = some (.int .i64 a0_9) := (blk_cell BK103.out 9).trans rfl; have hcz13_10 : w12.cell? ⟨gb103, 10, none⟩ = some (.float .f64 a0_10) := (blk_cell BK103.out 10).trans rfl; have hcz13_11 : w12.cell? ⟨gb103, 11, none⟩ = some (.slice A0_11 l0_11.length c0_11) := (blk_cell BK103.out 11).trans rfl; have hcz13_12 : w12.cell? ⟨gb103, 12, none⟩ = some (.int .i64 a0_12) := (blk_cell BK103.out 12).trans rfl; have hcz13_13 : w12.cell? ⟨gb103, 13, none⟩ = some (.int .i64 a0_13) := (blk_cell BK103.out 13).trans rfl; have hcz13_14 : w12.cell? ⟨gb103, 14, none⟩ = some (.float .f64 a0_14) := (blk_cell BK103.out 14).trans rfl; have hcz13_15 : w12.cell? ⟨gb103, 15, none⟩ = some (.slice A0_15 l0_15.length c0_15) := (blk_cell BK103.out 15).trans rfl; have hcz13_16 : w12.cell? ⟨gb103, 16, none⟩ = some (.slice A0_16 l0_16.length c0_16) := (blk_cell BK103.out 16).trans rfl; have hfz13_0 := blk_frozen BK103.out 0; have hfz13_1 := blk_frozen BK103.out 1; have hfz13_2 := blk_frozen BK103.out 2; have hfz13_3 := blk_frozen BK103.out 3; have hfz13_4 := blk_frozen BK103.out 4; have hfz13_5 := blk_frozen BK103.out 5; have hfz13_6 := blk_frozen BK103.out 6; have hfz13_7 := blk_frozen BK103.out 7; have hfz13_8 := blk_frozen BK103.out 8; have hfz13_9 := blk_frozen BK103.out 9; have hfz13_10 := blk_frozen BK103.out 10; have hfz13_11 := blk_frozen BK103.out 11; have hfz13_12 := blk_frozen BK103.out 12; have hfz13_13 := blk_frozen BK103.out 13; have hfz13_14 := blk_frozen BK103.out 14; have hfz13_15 := blk_frozen BK103.out 15; have hfz13_16 := blk_frozen BK103.out 16) | ((with_reducible refine gate_callee (f := 13) rfl ?_); refine goesL_ (some 14) rfl rfl Try.func13 (by kernel_rfl) rfl #[.agg #[.int .i64 a0_8, .int .i64 a0_9, .float .f64 a0_10, .slice A0_11 l0_11.length c0_11], .int .i64 t104] rfl (by (try simp only [List.map_toArray, List.map_cons, List.map_nil]); first | done | rfl | (simp only [List.length_drop, List.length_take]; rfl)) ?_; (with_reducible refine (laws_szItem.calls a0_8 a0_9 a0_10 _ _ l0_11 t104 t105 _ ?side1 ?side2 A8.out).mono ?_); (case side1 => repeat (first | exact (Kd.C_below HR0_11.out HB.out) | (with_reducible refine Kd.C_alloc ?_ _) | (with_reducible refine Kd.C_drewN ?_ _) | (with_reducible refine Kd.C_drew ?_))); (case side2 => exact HC0_11.out); rintro e w14 ⟨rfl, hb⟩; refine ⟨_, rfl, ?_⟩; have n0_ := Aside0.mk (blk_below (g := gb103) (o := .cells #[.int .i64 a0_0, .int .i64 a0_1, .int .i64 a0_2, .int .i64 a0_3, .int .i64 a0_4, .int .i64 a0_5, .float .f64 a0_6, .slice A0_7 l0_7.length c0_7, .int .i64 a0_8, .int .i64 a0_9, .float .f64 a0_10, .slice A0_11 l0_11.length c0_11, .int .i64 a0_12, .int .i64 a0_13, .float .f64 a0_14, .slice A0_15 l0_15.length c0_15, .slice A0_16 l0_16.length c0_16] 44 (0, 0)) (by (with_reducible repeat (first | refine blk_drewN ?_ _ | refine blk_drew ?_ | refine blk_alloc ?_ _)); exact BK103.out) hb); have n1_ := Aside0.mk (below_step (by repeat (first | (with_reducible first | exact HB.out | apply below_alloc | apply pw_below_drewN | apply below_drew1 | refine below_set ?_ GE103.out) | exact HB.out)) hb); clear BK103; clear HB; have BK103 := n0_; have HB := n1_; clear n0_ n1_; (try clear hb); (try clear hb2); (try clear hk); (try clear hi)))
      go_ret
      exact ⟨by first | rfl | (simp [errW_none, errW_some] <;> rfl) | (simp [*, errW_none, errW_some] <;> rfl), by repeat (first | (with_reducible first | exact HB.out | apply below_alloc | apply pw_below_drewN | apply below_drew1 | refine below_set ?_ GE103.out) | exact HB.out)⟩
    · rw [if_neg c9] at H
      have c9b0 : decide (t105 < 0) = false := decide_eq_false c9
      clear c9
      replace H := Option.bind_eq_some_iff.mp H
      obtain ⟨t106, A150, H⟩ := H
      replace H : (if t106 < 0 then (some (-1)) else ((laws_szBoolS.f l0_16 t106).bind fun t107 => (if t107 < 0 then (some (-1)) else (some t107)))) = some r := H
      have A15 := Aside0.mk A150
      clear A150
      by_cases c16 : t106 < 0
      · rw [if_pos c16] at H
        have c16b0 : decide (t106 < 0) = true := decide_eq_true c16
        clear c16
        obtain rfl := Option.some.inj H
        go_enter Try.func25, Try.ntmps25
        go_wp2_with (first | ((with_reducible refine gate_dst (N := 2) rfl ?_); refine box_event ?hg (N := 2) ?hd (cs := #[.int .i64 a0_0, .int .i64 a0_1, .int .i64 a0_2, .int .i64 a0_3, .int .i64 a0_4, .int .i64 a0_5, .float .f64 a0_6, .slice A0_7 l0_7.length c0_7, .int .i64 a0_8, .int .i64 a0_9, .float .f64 a0_10, .slice A0_11 l0_11.length c0_11, .int .i64 a0_12, .int .i64 a0_13, .float .f64 a0_14, .slice A0_15 l0_15.length c0_15, .slice A0_16 l0_16.length c0_16]) (t := 44) ?hr ?_; (case hd => rfl); (case hg => rfl); (case hr => first | (go_simp; done) | (go_simp; rfl)); intro gb103 hg w17 hbox hb; have n0_ := Aside0.mk (below_step (by repeat (first | (with_reducible first | exact HB.out | apply below_alloc | apply pw_below_drewN | apply below_drew1) | exact HB.out)) hb); have n1_ := Aside0.mk (hbox); have n2_ := Aside0.mk ((by rw [hg]; exact (below_size (by repeat (first | (with_reducible first | exact HB.out | apply below_alloc | apply pw_below_drewN | apply below_drew1) | exact HB.out))) : w.heap.size ≤ gb103)); have n3_ := Aside0.mk ((by rw [hg]; exact (below_size (by repeat (first | (with_reducible first | exact HB.out | apply below_alloc | apply pw_below_drewN | apply below_drew1) | exact HB.out))) : w.heap.size ≤ gb103)); clear HB; have HB := n0_; have BK103 := n1_; have GW103 := n2_; have GE103 := n3_; clear n0_ n1_ n2_ n3_; clear hb hbox hg; have hcz18_0 : w17.cell? ⟨gb103, 0, none⟩ = some (.int .i64 a0_0) := (blk_cell BK103.out 0).trans rfl; have hcz18_1 : w17.cell? ⟨gb103, 1, none⟩ = some (.int .i64 a0_1) := (blk_cell BK103.out 1).trans rfl; have hcz18_2 : w17.cell? ⟨gb103, 2, none⟩ = some (.int .i64 a0_2) := (blk_cell BK103.out 2).trans rfl; have hcz18_3 : w17.cell? ⟨gb103, 3, none⟩ = some (.int .i64 a0_3) := (blk_cell BK103.out 3).trans rfl; have hcz18_4 : w17.cell? ⟨gb103, 4, none⟩ = some (.int .i64 a0_4) := (blk_cell BK103.out 4).trans rfl; have hcz18_5 : w17.cell? ⟨gb103, 5, none⟩ = some (.int .i64 a0_5) := (blk_cell BK103.out 5).trans rfl; have hcz18_6 : w17.cell? ⟨gb103, 6, none⟩ = some (.float .f64 a0_6) := (blk_cell BK103.out 6).trans rfl; have hcz18_7 : w17.cell? ⟨gb103, 7, none⟩ = some (.slice A0_7 l0_7.length c0_7) := (blk_cell BK103.out 7).trans rfl; have hcz18_8 : w17.cell? ⟨gb103, 8, none⟩ = some (.int .i64 a0_8) := (blk_cell BK103.out 8).trans rfl; have hcz18_9 : w17.cell? ⟨gb103, 9, none⟩ = some (.int .i64 a0_9) := (blk_cell BK103.out 9).trans rfl; have hcz18_10 : w17.cell? ⟨gb103, 10, none⟩ = some (.float .f64 a0_10) := (blk_cell BK103.out 10).trans rfl; have hcz18_11 : w17.cell? ⟨gb103, 11, none⟩ = some (.slice A0_11 l0_11.length c0_11) := (blk_cell BK103.out 11).trans rfl; have hcz18_12 : w17.cell? ⟨gb103, 12, none⟩ = some (.int .i64 a0_12) := (blk_cell BK103.out 12).trans rfl; have hcz18_13 : w17.cell? ⟨gb103, 13, none⟩ = some (.int .i64 a0_13) := (blk_cell BK103.out 13).trans rfl; have hcz18_14 : w17.cell? ⟨gb103, 14, none⟩ = some (.float .f64 a0_14) := (blk_cell BK103.out 14).trans rfl; have hcz18_15 : w17.cell? ⟨gb103, 15, none⟩ = some (.slice A0_15 l0_15.length c0_15) := (blk_cell BK103.out 15).trans rfl; have hcz18_16 : w17.cell? ⟨gb103, 16, none⟩ = some (.slice A0_16 l0_16.length c0_16) := (blk_cell BK103.out 16).trans rfl; have hfz18_0 := blk_frozen BK103.out 0; have hfz18_1 := blk_frozen BK103.out 1; have hfz18_2 := blk_frozen BK103.out 2; have hfz18_3 := blk_frozen BK103.out 3; have hfz18_4 := blk_frozen BK103.out 4; have hfz18_5 := blk_frozen BK103.out 5; have hfz18_6 := blk_frozen BK103.out 6; have hfz18_7 := blk_frozen BK103.out 7; have hfz18_8 := blk_frozen BK103.out 8; have hfz18_9 := blk_frozen BK103.out 9; have hfz18_10 := blk_frozen BK103.out 10; have hfz18_11 := blk_frozen BK103.out 11; have hfz18_12 := blk_frozen BK103.out 12; have hfz18_13 := blk_frozen BK103.out 13; have hfz18_14 := blk_frozen BK103.out 14; have hfz18_15 := blk_frozen BK103.out 15; have hfz18_16 := blk_frozen BK103.out 16) | ((with_reducible refine gate_callee (f := 13) rfl ?_); refine goesL_ (some 8) rfl rfl Try.func13 (by kernel_rfl) rfl #[.agg #[.int .i64 a0_4, .int .i64 a0_5, .float .f64 a0_6, .slice A0_7 l0_7.length c0_7], .int .i64 a1] rfl (by (try simp only [List.map_toArray, List.map_cons, List.map_nil]); first | done | rfl | (simp only [List.length_drop, List.length_take]; rfl)) ?_; (with_reducible refine (laws_szItem.calls a0_4 a0_5 a0_6 _ _ l0_7 a1 t104 _ ?side1 ?side2 A3.out).mono ?_); (case side1 => repeat (first | exact (Kd.C_below HR0_7.out HB.out) | (with_reducible refine Kd.C_alloc ?_ _) | (with_reducible refine Kd.C_drewN ?_ _) | (with_reducible refine Kd.C_drew ?_))); (case side2 => exact HC0_7.out); rintro e w19 ⟨rfl, hb⟩; refine ⟨_, rfl, ?_⟩; have n0_ := Aside0.mk (blk_below (g := gb103) (o := .cells #[.int .i64 a0_0, .int .i64 a0_1, .int .i64 a0_2, .int .i64 a0_3, .int .i64 a0_4, .int .i64 a0_5, .float .f64 a0_6, .slice A0_7 l0_7.length c0_7, .int .i64 a0_8, .int .i64 a0_9, .float .f64 a0_10, .slice A0_11 l0_11.length c0_11, .int .i64 a0_12, .int .i64 a0_13, .float .f64 a0_14, .slice A0_15 l0_15.length c0_15, .slice A0_16 l0_16.length c0_16] 44 (0, 0)) (by (with_reducible repeat (first | refine blk_drewN ?_ _ | refine blk_drew ?_ | refine blk_alloc ?_ _)); exact BK103.out) hb); have n1_ := Aside0.mk (below_step (by repeat (first | (with_reducible first | exact HB.out | apply below_alloc | apply pw_below_drewN | apply below_drew1 | refine below_set ?_ GE103.out) | exact HB.out)) hb); clear BK103; clear HB; have BK103 := n0_; have HB := n1_; clear n0_ n1_; (try clear hb); (try clear hb2); (try clear hk); (try clear hi); have hcz20_0 : w19.cell? ⟨gb103, 0, none⟩ = some (.int .i64 a0_0) := (blk_cell BK103.out 0).trans rfl; have hcz20_1 : w19.cell? ⟨gb103, 1, none⟩ = some (.int .i64 a0_1) := (blk_cell BK103.out 1).trans rfl; have hcz20_2 : w19.cell? ⟨gb103, 2, none⟩ = some (.int .i64 a0_2) := (blk_cell BK103.out 2).trans rfl; have hcz20_3 : w19.cell? ⟨gb103, 3, none⟩ = some (.int .i64 a0_3) := (blk_cell BK103.out 3).trans rfl; have hcz20_4 : w19.cell? ⟨gb103, 4, none⟩ = some (.int .i64 a0_4) := (blk_cell BK103.out 4).trans rfl; have hcz20_5 : w19.cell? ⟨gb103, 5, none⟩ = some (.int .i64 a0_5) := (blk_cell BK103.out 5).trans rfl; have hcz20_6 : w19.cell? ⟨gb103, 6, none⟩ = some (.float .f64 a0_6) := (blk_cell BK103.out 6).trans rfl; have hcz20_7 : w19.cell? ⟨gb103, 7, none⟩ = some (.slice A0_7 l0_7.length c0_7) := (blk_cell BK103.out 7).trans rfl; have hcz20_8 : w19.cell? ⟨gb103, 8, none⟩ = some (.int .i64 a0_8) := (blk_cell BK103.out 8).trans rfl; have hcz20_9 : w19.cell? ⟨gb103, 9, none⟩ = some (.int .i64 a0_9) := (blk_cell BK103.out 9).trans rfl; have hcz20_10 : w19.cell? ⟨gb103, 10, none⟩ = some (.float .f64 a0_10) := (blk_cell BK103.out 10).trans rfl; have hcz20_11 : w19.cell? ⟨gb103, 11, none⟩ = some (.slice A0_11 l0_11.length c0_11) := (blk_cell BK103.out 11).trans rfl; have hcz20_12 : w19.cell? ⟨gb103, 12, none⟩ = some (.int .i64 a0_12) := (blk_cell BK103.out 12).trans rfl; have hcz20_13 : w19.cell? ⟨gb103, 13, none⟩ = some (.int .i64 a0_13) := (blk_cell BK103.out 13).trans rfl; have hcz20_14 : w19.cell? ⟨gb103, 14, none⟩ = some (.float .f64 a0_14) := (blk_cell BK103.out 14).trans rfl; have hcz20_15 : w19.cell? ⟨gb103, 15, none⟩ = some (.slice A0_15 l0_15.length c0_15) := (blk_cell BK103.out 15).trans rfl; have hcz20_16 : w19.cell? ⟨gb103, 16, none⟩ = some (.slice A0_16 l0_16.length c0_16) := (blk_cell BK103.out 16).trans rfl; have hfz20_0 := blk_frozen BK103.out 0; have hfz20_1 := blk_frozen BK103.out 1; have hfz20_2 := blk_frozen BK103.out 2; have hfz20_3 := blk_frozen BK103.out 3; have hfz20_4 := blk_frozen BK103.out 4; have hfz20_5 := blk_frozen BK103.out 5; have hfz20_6 := blk_frozen BK103.out 6; have hfz20_7 := blk_frozen BK103.out 7; have hfz20_8 := blk_frozen BK103.out 8; have hfz20_9 := blk_frozen BK103.out 9; have hfz20_10 := blk_frozen BK103.out 10; have hfz20_11 := blk_frozen BK103.out 11; have hfz20_12 := blk_frozen BK103.out 12; have hfz20_13 := blk_frozen BK103.out 13; have hfz20_14 := blk_frozen BK103.out 14; have hfz20_15 := blk_frozen BK103.out 15; have hfz20_16 := blk_frozen BK103.out 16) | ((with_reducible refine gate_callee (f := 13) rfl ?_); refine goesL_ (some 14) rfl rfl Try.func13 (by kernel_rfl) rfl #[.agg #[.int .i64 a0_8, .int .i64 a0_9, .float .f64 a0_10, .slice A0_11 l0_11.length c0_11], .int .i64 t104] rfl (by (try simp only [List.map_toArray, List.map_cons, List.map_nil]); first | done | rfl | (simp only [List.length_drop, List.length_take]; rfl)) ?_; (with_reducible refine (laws_szItem.calls a0_8 a0_9 a0_10 _ _ l0_11 t104 t105 _ ?side1 ?side2 A8.out).mono ?_); (case side1 => repeat (first | exact (Kd.C_below HR0_11.out HB.out) | (with_reducible refine Kd.C_alloc ?_ _) | (with_reducible refine Kd.C_drewN ?_ _) | (with_reducible refine Kd.C_drew ?_))); (case side2 => exact HC0_11.out); rintro e w21 ⟨rfl, hb⟩; refine ⟨_, rfl, ?_⟩; have n0_ := Aside0.mk (blk_below (g := gb103) (o := .cells #[.int .i64 a0_0, .int .i64 a0_1, .int .i64 a0_2, .int .i64 a0_3, .int .i64 a0_4, .int .i64 a0_5, .float .f64 a0_6, .slice A0_7 l0_7.length c0_7, .int .i64 a0_8, .int .i64 a0_9, .float .f64 a0_10, .slice A0_11 l0_11.length c0_11, .int .i64 a0_12, .int .i64 a0_13, .float .f64 a0_14, .slice A0_15 l0_15.length c0_15, .slice A0_16 l0_16.length c0_16] 44 (0, 0)) (by (with_reducible repeat (first | refine blk_drewN ?_ _ | refine blk_drew ?_ | refine blk_alloc ?_ _)); exact BK103.out) hb); have n1_ := Aside0.mk (below_step (by repeat (first | (with_reducible first | exact HB.out | apply below_alloc | apply pw_below_drewN | apply below_drew1 | refine below_set ?_ GE103.out) | exact HB.out)) hb); clear BK103; clear HB; have BK103 := n0_; have HB := n1_; clear n0_ n1_; (try clear hb); (try clear hb2); (try clear hk); (try clear hi); have hcz22_0 : w21.cell? ⟨gb103, 0, none⟩ = some (.int .i64 a0_0) := (blk_cell BK103.out 0).trans rfl; have hcz22_1 : w21.cell? ⟨gb103, 1, none⟩ = some (.int .i64 a0_1) := (blk_cell BK103.out 1).trans rfl; have hcz22_2 : w21.cell? ⟨gb103, 2, none⟩ = some (.int .i64 a0_2) := (blk_cell BK103.out 2).trans rfl; have hcz22_3 : w21.cell? ⟨gb103, 3, none⟩ = some (.int .i64 a0_3) := (blk_cell BK103.out 3).trans rfl; have hcz22_4 : w21.cell? ⟨gb103, 4, none⟩ = some (.int .i64 a0_4) := (blk_cell BK103.out 4).trans rfl; have hcz22_5 : w21.cell? ⟨gb103, 5, none⟩ = some (.int .i64 a0_5) := (blk_cell BK103.out 5).trans rfl; have hcz22_6 : w21.cell? ⟨gb103, 6, none⟩ = some (.float .f64 a0_6) := (blk_cell BK103.out 6).trans rfl; have hcz22_7 : w21.cell? ⟨gb103, 7, none⟩ = some (.slice A0_7 l0_7.length c0_7) := (blk_cell BK103.out 7).trans rfl; have hcz22_8 : w21.cell? ⟨gb103, 8, none⟩ = some (.int .i64 a0_8) := (blk_cell BK103.out 8).trans rfl; have hcz22_9 : w21.cell? ⟨gb103, 9, none⟩ = some (.int .i64 a0_9) := (blk_cell BK103.out 9).trans rfl; have hcz22_10 : w21.cell? ⟨gb103, 10, none⟩ = some (.float .f64 a0_10) := (blk_cell BK103.out 10).trans rfl; have hcz22_11 : w21.cell? ⟨gb103, 11, none⟩ = some (.slice A0_11 l0_11.length c0_11) := (blk_cell BK103.out 11).trans rfl; have hcz22_12 : w21.cell? ⟨gb103, 12, none⟩ = some (.int .i64 a0_12) := (blk_cell BK103.out 12).trans rfl; have hcz22_13 : w21.cell? ⟨gb103, 13, none⟩ = some (.int .i64 a0_13) := (blk_cell BK103.out 13).trans rfl; have hcz22_14 : w21.cell? ⟨gb103, 14, none⟩ = some (.float .f64 a0_14) := (blk_cell BK103.out 14).trans rfl; have hcz22_15 : w21.cell? ⟨gb103, 15, none⟩ = some (.slice A0_15 l0_15.length c0_15) := (blk_cell BK103.out 15).trans rfl; have hcz22_16 : w21.cell? ⟨gb103, 16, none⟩ = some (.slice A0_16 l0_16.length c0_16) := (blk_cell BK103.out 16).trans rfl; have hfz22_0 := blk_frozen BK103.out 0; have hfz22_1 := blk_frozen BK103.out 1; have hfz22_2 := blk_frozen BK103.out 2; have hfz22_3 := blk_frozen BK103.out 3; have hfz22_4 := blk_frozen BK103.out 4; have hfz22_5 := blk_frozen BK103.out 5; have hfz22_6 := blk_frozen BK103.out 6; have hfz22_7 := blk_frozen BK103.out 7; have hfz22_8 := blk_frozen BK103.out 8; have hfz22_9 := blk_frozen BK103.out 9; have hfz22_10 := blk_frozen BK103.out 10; have hfz22_11 := blk_frozen BK103.out 11; have hfz22_12 := blk_frozen BK103.out 12; have hfz22_13 := blk_frozen BK103.out 13; have hfz22_14 := blk_frozen BK103.out 14; have hfz22_15 := blk_frozen BK103.out 15; have hfz22_16 := blk_frozen BK103.out 16) | ((with_reducible refine gate_callee (f := 13) rfl ?_); refine goesL_ (some 20) rfl rfl Try.func13 (by kernel_rfl) rfl #[.agg #[.int .i64 a0_12, .int .i64 a0_13, .float .f64 a0_14, .slice A0_15 l0_15.length c0_15], .int .i64 t105] rfl (by (try simp only [List.map_toArray, List.map_cons, List.map_nil]); first | done | rfl | (simp only [List.length_drop, List.length_take]; rfl)) ?_; (with_reducible refine (laws_szItem.calls a0_12 a0_13 a0_14 _ _ l0_15 t105 t106 _ ?side1 ?side2 A15.out).mono ?_); (case side1 => repeat (first | exact (Kd.C_below HR0_15.out HB.out) | (with_reducible refine Kd.C_alloc ?_ _) | (with_reducible refine Kd.C_drewN ?_ _) | (with_reducible refine Kd.C_drew ?_))); (case side2 => exact HC0_15.out); rintro e w23 ⟨rfl, hb⟩; refine ⟨_, rfl, ?_⟩; have n0_ := Aside0.mk (blk_below (g := gb103) (o := .cells #[.int .i64 a0_0, .int .i64 a0_1, .int .i64 a0_2, .int .i64 a0_3, .int .i64 a0_4, .int .i64 a0_5, .float .f64 a0_6, .slice A0_7 l0_7.length c0_7, .int .i64 a0_8, .int .i64 a0_9, .float .f64 a0_10, .slice A0_11 l0_11.length c0_11, .int .i64 a0_12, .int .i64 a0_13, .float .f64 a0_14, .slice A0_15 l0_15.length c0_15, .slice A0_16 l0_16.length c0_16] 44 (0, 0)) (by (with_reducible repeat (first | refine blk_drewN ?_ _ | refine blk_drew ?_ | refine blk_alloc ?_ _)); exact BK103.out) hb); have n1_ := Aside0.mk (below_step (by repeat (first | (with_reducible first | exact HB.out | apply below_alloc | apply pw_below_drewN | apply below_drew1 | refine below_set ?_ GE103.out) | exact HB.out)) hb); clear BK103; clear HB; have BK103 := n0_; have HB := n1_; clear n0_ n1_; (try clear hb); (try clear hb2); (try clear hk); (try clear hi)))
        go_ret
        exact ⟨by first | rfl | (simp [errW_none, errW_some] <;> rfl) | (simp [*, errW_none, errW_some] <;> rfl), by repeat (first | (with_reducible first | exact HB.out | apply below_alloc | apply pw_below_drewN | apply below_drew1 | refine below_set ?_ GE103.out) | exact HB.out)⟩
      · rw [if_neg c16] at H
        have c16b0 : decide (t106 < 0) = false := decide_eq_false c16
        clear c16
        replace H := Option.bind_eq_some_iff.mp H
        obtain ⟨t107, A240, H⟩ := H
        replace H : (if t107 < 0 then (some (-1)) else (some t107)) = some r := H
        have A24 := Aside0.mk A240
        clear A240
        by_cases c25 : t107 < 0
        · rw [if_pos c25] at H
          have c25b0 : decide (t107 < 0) = true := decide_eq_true c25
          clear c25
          obtain rfl := Option.some.inj H
          go_enter Try.func25, Try.ntmps25
          go_wp2_with (first | ((with_reducible refine gate_dst (N := 2) rfl ?_); refine box_event ?hg (N := 2) ?hd (cs := #[.int .i64 a0_0, .int .i64 a0_1, .int .i64 a0_2, .int .i64 a0_3, .int .i64 a0_4, .int .i64 a0_5, .float .f64 a0_6, .slice A0_7 l0_7.length c0_7, .int .i64 a0_8, .int .i64 a0_9, .float .f64 a0_10, .slice A0_11 l0_11.length c0_11, .int .i64 a0_12, .int .i64 a0_13, .float .f64 a0_14, .slice A0_15 l0_15.length c0_15, .slice A0_16 l0_16.length c0_16]) (t := 44) ?hr ?_; (case hd => rfl); (case hg => rfl); (case hr => first | (go_simp; done) | (go_simp; rfl)); intro gb103 hg w26 hbox hb; have n0_ := Aside0.mk (below_step (by repeat (first | (with_reducible first | exact HB.out | apply below_alloc | apply pw_below_drewN | apply below_drew1) | exact HB.out)) hb); have n1_ := Aside0.mk (hbox); have n2_ := Aside0.mk ((by rw [hg]; exact (below_size (by repeat (first | (with_reducible first | exact HB.out | apply below_alloc | apply pw_below_drewN | apply below_drew1) | exact HB.out))) : w.heap.size ≤ gb103)); have n3_ := Aside0.mk ((by rw [hg]; exact (below_size (by repeat (first | (with_reducible first | exact HB.out | apply below_alloc | apply pw_below_drewN | apply below_drew1) | exact HB.out))) : w.heap.size ≤ gb103)); clear HB; have HB := n0_; have BK103 := n1_; have GW103 := n2_; have GE103 := n3_; clear n0_ n1_ n2_ n3_; clear hb hbox hg; have hcz27_0 : w26.cell? ⟨gb103, 0, none⟩ = some (.int .i64 a0_0) := (blk_cell BK103.out 0).trans rfl; have hcz27_1 : w26.cell? ⟨gb103, 1, none⟩ = some (.int .i64 a0_1) := (blk_cell BK103.out 1).trans rfl; have hcz27_2 : w26.cell? ⟨gb103, 2, none⟩ = some (.int .i64 a0_2) := (blk_cell BK103.out 2).trans rfl; have hcz27_3 : w26.cell? ⟨gb103, 3, none⟩ = some (.int .i64 a0_3) := (blk_cell BK103.out 3).trans rfl; have hcz27_4 : w26.cell? ⟨gb103, 4, none⟩ = some (.int .i64 a0_4) := (blk_cell BK103.out 4).trans rfl; have hcz27_5 : w26.cell? ⟨gb103, 5, none⟩ = some (.int .i64 a0_5) := (blk_cell BK103.out 5).trans rfl; have hcz27_6 : w26.cell? ⟨gb103, 6, none⟩ = some (.float .f64 a0_6) := (blk_cell BK103.out 6).trans rfl; have hcz27_7 : w26.cell? ⟨gb103, 7, none⟩ = some (.slice A0_7 l0_7.length c0_7) := (blk_cell BK103.out 7).trans rfl; have hcz27_8 : w26.cell? ⟨gb103, 8, none⟩ = some (.int .i64 a0_8) := (blk_cell BK103.out 8).trans rfl; have hcz27_9 : w26.cell? ⟨gb103, 9, none⟩ = some (.int .i64 a0_9) := (blk_cell BK103.out 9).trans rfl; have hcz27_10 : w26.cell? ⟨gb103, 10, none⟩ = some (.float .f64 a0_10) := (blk_cell BK103.out 10).trans rfl; have hcz27_11 : w26.cell? ⟨gb103, 11, none⟩ = some (.slice A0_11 l0_11.length c0_11) := (blk_cell BK103.out 11).trans rfl; have hcz27_12 : w26.cell? ⟨gb103, 12, none⟩ = some (.int .i64 a0_12) := (blk_cell BK103.out 12).trans rfl; have hcz27_13 : w26.cell? ⟨gb103, 13, none⟩ = some (.int .i64 a0_13) := (blk_cell BK103.out 13).trans rfl; have hcz27_14 : w26.cell? ⟨gb103, 14, none⟩ = some (.float .f64 a0_14) := (blk_cell BK103.out 14).trans rfl; have hcz27_15 : w26.cell? ⟨gb103, 15, none⟩ = some (.slice A0_15 l0_15.length c0_15) := (blk_cell BK103.out 15).trans rfl; have hcz27_16 : w26.cell? ⟨gb103, 16, none⟩ = some (.slice A0_16 l0_16.length c0_16) := (blk_cell BK103.out 16).trans rfl; have hfz27_0 := blk_frozen BK103.out 0; have hfz27_1 := blk_frozen BK103.out 1; have hfz27_2 := blk_frozen BK103.out 2; have hfz27_3 := blk_frozen BK103.out 3; have hfz27_4 := blk_frozen BK103.out 4; have hfz27_5 := blk_frozen BK103.out 5; have hfz27_6 := blk_frozen BK103.out 6; have hfz27_7 := blk_frozen BK103.out 7; have hfz27_8 := blk_frozen BK103.out 8; have hfz27_9 := blk_frozen BK103.out 9; have hfz27_10 := blk_frozen BK103.out 10; have hfz27_11 := blk_frozen BK103.out 11; have hfz27_12 := blk_frozen BK103.out 12; have hfz27_13 := blk_frozen BK103.out 13; have hfz27_14 := blk_frozen BK103.out 14; have hfz27_15 := blk_frozen BK103.out 15; have hfz27_16 := blk_frozen BK103.out 16) | ((with_reducible refine gate_callee (f := 13) rfl ?_); refine goesL_ (some 8) rfl rfl Try.func13 (by kernel_rfl) rfl #[.agg #[.int .i64 a0_4, .int .i64 a0_5, .float .f64 a0_6, .slice A0_7 l0_7.length c0_7], .int .i64 a1] rfl (by (try simp only [List.map_toArray, List.map_cons, List.map_nil]); first | done | rfl | (simp only [List.length_drop, List.length_take]; rfl)) ?_; (with_reducible refine (laws_szItem.calls a0_4 a0_5 a0_6 _ _ l0_7 a1 t104 _ ?side1 ?side2 A3.out).mono ?_); (case side1 => repeat (first | exact (Kd.C_below HR0_7.out HB.out) | (with_reducible refine Kd.C_alloc ?_ _) | (with_reducible refine Kd.C_drewN ?_ _) | (with_reducible refine Kd.C_drew ?_))); (case side2 => exact HC0_7.out); rintro e w28 ⟨rfl, hb⟩; refine ⟨_, rfl, ?_⟩; have n0_ := Aside0.mk (blk_below (g := gb103) (o := .cells #[.int .i64 a0_0, .int .i64 a0_1, .int .i64 a0_2, .int .i64 a0_3, .int .i64 a0_4, .int .i64 a0_5, .float .f64 a0_6, .slice A0_7 l0_7.length c0_7, .int .i64 a0_8, .int .i64 a0_9, .float .f64 a0_10, .slice A0_11 l0_11.length c0_11, .int .i64 a0_12, .int .i64 a0_13, .float .f64 a0_14, .slice A0_15 l0_15.length c0_15, .slice A0_16 l0_16.length c0_16] 44 (0, 0)) (by (with_reducible repeat (first | refine blk_drewN ?_ _ | refine blk_drew ?_ | refine blk_alloc ?_ _)); exact BK103.out) hb); have n1_ := Aside0.mk (below_step (by repeat (first | (with_reducible first | exact HB.out | apply below_alloc | apply pw_below_drewN | apply below_drew1 | refine below_set ?_ GE103.out) | exact HB.out)) hb); clear BK103; clear HB; have BK103 := n0_; have HB := n1_; clear n0_ n1_; (try clear hb); (try clear hb2); (try clear hk); (try clear hi); have hcz29_0 : w28.cell? ⟨gb103, 0, none⟩ = some (.int .i64 a0_0) := (blk_cell BK103.out 0).trans rfl; have hcz29_1 : w28.cell? ⟨gb103, 1, none⟩ = some (.int .i64 a0_1) := (blk_cell BK103.out 1).trans rfl; have hcz29_2 : w28.cell? ⟨gb103, 2, none⟩ = some (.int .i64 a0_2) := (blk_cell BK103.out 2).trans rfl; have hcz29_3 : w28.cell? ⟨gb103, 3, none⟩ = some (.int .i64 a0_3) := (blk_cell BK103.out 3).trans rfl; have hcz29_4 : w28.cell? ⟨gb103, 4, none⟩ = some (.int .i64 a0_4) := (blk_cell BK103.out 4).trans rfl; have hcz29_5 : w28.cell? ⟨gb103, 5, none⟩ = some (.int .i64 a0_5) := (blk_cell BK103.out 5).trans rfl; have hcz29_6 : w28.cell? ⟨gb103, 6, none⟩ = some (.float .f64 a0_6) := (blk_cell BK103.out 6).trans rfl; have hcz29_7 : w28.cell? ⟨gb103, 7, none⟩ = some (.slice A0_7 l0_7.length c0_7) := (blk_cell BK103.out 7).trans rfl; have hcz29_8 : w28.cell? ⟨gb103, 8, none⟩ = some (.int .i64 a0_8) := (blk_cell BK103.out 8).trans rfl; have hcz29_9 : w28.cell? ⟨gb103, 9, none⟩ = some (.int .i64 a0_9) := (blk_cell BK103.out 9).trans rfl; have hcz29_10 : w28.cell? ⟨gb103, 10, none⟩ = some (.float .f64 a0_10) := (blk_cell BK103.out 10).trans rfl; have hcz29_11 : w28.cell? ⟨gb103, 11, none⟩ = some (.slice A0_11 l0_11.length c0_11) := (blk_cell BK103.out 11).trans rfl; have hcz29_12 : w28.cell? ⟨gb103, 12, none⟩ = some (.int .i64 a0_12) := (blk_cell BK103.out 12).trans rfl; have hcz29_13 : w28.cell? ⟨gb103, 13, none⟩ = some (.int .i64 a0_13) := (blk_cell BK103.out 13).trans rfl; have hcz29_14 : w28.cell? ⟨gb103, 14, none⟩ = some (.float .f64 a0_14) := (blk_cell BK103.out 14).trans rfl; have hcz29_15 : w28.cell? ⟨gb103, 15, none⟩ = some (.slice A0_15 l0_15.length c0_15) := (blk_cell BK103.out 15).trans rfl; have hcz29_16 : w28.cell? ⟨gb103, 16, none⟩ = some (.slice A0_16 l0_16.length c0_16) := (blk_cell BK103.out 16).trans rfl; have hfz29_0 := blk_frozen BK103.out 0; have hfz29_1 := blk_frozen BK103.out 1; have hfz29_2 := blk_frozen BK103.out 2; have hfz29_3 := blk_frozen BK103.out 3; have hfz29_4 := blk_frozen BK103.out 4; have hfz29_5 := blk_frozen BK103.out 5; have hfz29_6 := blk_frozen BK103.out 6; have hfz29_7 := blk_frozen BK103.out 7; have hfz29_8 := blk_frozen BK103.out 8; have hfz29_9 := blk_frozen BK103.out 9; have hfz29_10 := blk_frozen BK103.out 10; have hfz29_11 := blk_frozen BK103.out 11; have hfz29_12 := blk_frozen BK103.out 12; have hfz29_13 := blk_frozen BK103.out 13; have hfz29_14 := blk_frozen BK103.out 14; have hfz29_15 := blk_frozen BK103.out 15; have hfz29_16 := blk_frozen BK103.out 16) | ((with_reducible refine gate_callee (f := 13) rfl ?_); refine goesL_ (some 14) rfl rfl Try.func13 (by kernel_rfl) rfl #[.agg #[.int .i64 a0_8, .int .i64 a0_9, .float .f64 a0_10, .slice A0_11 l0_11.length c0_11], .int .i64 t104] rfl (by (try simp only [List.map_toArray, List.map_cons, List.map_nil]); first | done | rfl | (simp only [List.length_drop, List.length_take]; rfl)) ?_; (with_reducible refine (laws_szItem.calls a0_8 a0_9 a0_10 _ _ l0_11 t104 t105 _ ?side1 ?side2 A8.out).mono ?_); (case side1 => repeat (first | exact (Kd.C_below HR0_11.out HB.out) | (with_reducible refine Kd.C_alloc ?_ _) | (with_reducible refine Kd.C_drewN ?_ _) | (with_reducible refine Kd.C_drew ?_))); (case side2 => exact HC0_11.out); rintro e w30 ⟨rfl, hb⟩; refine ⟨_, rfl, ?_⟩; have n0_ := Aside0.mk (blk_below (g := gb103) (o := .cells #[.int .i64 a0_0, .int .i64 a0_1, .int .i64 a0_2, .int .i64 a0_3, .int .i64 a0_4, .int .i64 a0_5, .float .f64 a0_6, .slice A0_7 l0_7.length c0_7, .int .i64 a0_8, .int .i64 a0_9, .float .f64 a0_10, .slice A0_11 l0_11.length c0_11, .int .i64 a0_12, .int .i64 a0_13, .float .f64 a0_14, .slice A0_15 l0_15.length c0_15, .slice A0_16 l0_16.length c0_16] 44 (0, 0)) (by (with_reducible repeat (first | refine blk_drewN ?_ _ | refine blk_drew ?_ | refine blk_alloc ?_ _)); exact BK103.out) hb); have n1_ := Aside0.mk (below_step (by repeat (first | (with_reducible first | exact HB.out | apply below_alloc | apply pw_below_drewN | apply below_drew1 | refine below_set ?_ GE103.out) | exact HB.out)) hb); clear BK103; clear HB; have BK103 := n0_; have HB := n1_; clear n0_ n1_; (try clear hb); (try clear hb2); (try clear hk); (try clear hi); have hcz31_0 : w30.cell? ⟨gb103, 0, none⟩ = some (.int .i64 a0_0) := (blk_cell BK103.out 0).trans rfl; have hcz31_1 : w30.cell? ⟨gb103, 1, none⟩ = some (.int .i64 a0_1) := (blk_cell BK103.out 1).trans rfl; have hcz31_2 : w30.cell? ⟨gb103, 2, none⟩ = some (.int .i64 a0_2) := (blk_cell BK103.out 2).trans rfl; have hcz31_3 : w30.cell? ⟨gb103, 3, none⟩ = some (.int .i64 a0_3) := (blk_cell BK103.out 3).trans rfl; have hcz31_4 : w30.cell? ⟨gb103, 4, none⟩ = some (.int .i64 a0_4) := (blk_cell BK103.out 4).trans rfl; have hcz31_5 : w30.cell? ⟨gb103, 5, none⟩ = some (.int .i64 a0_5) := (blk_cell BK103.out 5).trans rfl; have hcz31_6 : w30.cell? ⟨gb103, 6, none⟩ = some (.float .f64 a0_6) := (blk_cell BK103.out 6).trans rfl; have hcz31_7 : w30.cell? ⟨gb103, 7, none⟩ = some (.slice A0_7 l0_7.length c0_7) := (blk_cell BK103.out 7).trans rfl; have hcz31_8 : w30.cell? ⟨gb103, 8, none⟩ = some (.int .i64 a0_8) := (blk_cell BK103.out 8).trans rfl; have hcz31_9 : w30.cell? ⟨gb103, 9, none⟩ = some (.int .i64 a0_9) := (blk_cell BK103.out 9).trans rfl; have hcz31_10 : w30.cell? ⟨gb103, 10, none⟩ = some (.float .f64 a0_10) := (blk_cell BK103.out 10).trans rfl; have hcz31_11 : w30.cell? ⟨gb103, 11, none⟩ = some (.slice A0_11 l0_11.length c0_11) := (blk_cell BK103.out 11).trans rfl; have hcz31_12 : w30.cell? ⟨gb103, 12, none⟩ = some (.int .i64 a0_12) := (blk_cell BK103.out 12).trans rfl; have hcz31_13 : w30.cell? ⟨gb103, 13, none⟩ = some (.int .i64 a0_13) := (blk_cell BK103.out 13).trans rfl; have hcz31_14 : w30.cell? ⟨gb103, 14, none⟩ = some (.float .f64 a0_14) := (blk_cell BK103.out 14).trans rfl; have hcz31_15 : w30.cell? ⟨gb103, 15, none⟩ = some (.slice A0_15 l0_15.length c0_15) := (blk_cell BK103.out 15).trans rfl; have hcz31_16 : w30.cell? ⟨gb103, 16, none⟩ = some (.slice A0_16 l0_16.length c0_16) := (blk_cell BK103.out 16).trans rfl; have hfz31_0 := blk_frozen BK103.out 0; have hfz31_1 := blk_frozen BK103.out 1; have hfz31_2 := blk_frozen BK103.out 2; have hfz31_3 := blk_frozen BK103.out 3; have hfz31_4 := blk_frozen BK103.out 4; have hfz31_5 := blk_frozen BK103.out 5; have hfz31_6 := blk_frozen BK103.out 6; have hfz31_7 := blk_frozen BK103.out 7; have hfz31_8 := blk_frozen BK103.out 8; have hfz31_9 := blk_frozen BK103.out 9; have hfz31_10 := blk_frozen BK103.out 10; have hfz31_11 := blk_frozen BK103.out 11; have hfz31_12 := blk_frozen BK103.out 12; have hfz31_13 := blk_frozen BK103.out 13; have hfz31_14 := blk_frozen BK103.out 14; have hfz31_15 := blk_frozen BK103.out 15; have hfz31_16 := blk_frozen BK103.out 16) | ((with_reducible refine gate_callee (f := 13) rfl ?_); refine goesL_ (some 20) rfl rfl Try.func13 (by kernel_rfl) rfl #[.agg #[.int .i64 a0_12, .int .i64 a0_13, .float .f64 a0_14, .slice A0_15 l0_15.length c0_15], .int .i64 t105] rfl (by (try simp only [List.map_toArray, List.map_cons, List.map_nil]); first | done | rfl | (simp only [List.length_drop, List.length_take]; rfl)) ?_; (with_reducible refine (laws_szItem.calls a0_12 a0_13 a0_14 _ _ l0_15 t105 t106 _ ?side1 ?side2 A15.out).mono ?_); (case side1 => repeat (first | exact (Kd.C_below HR0_15.out HB.out) | (with_reducible refine Kd.C_alloc ?_ _) | (with_reducible refine Kd.C_drewN ?_ _) | (with_reducible refine Kd.C_drew ?_))); (case side2 => exact HC0_15.out); rintro e w32 ⟨rfl, hb⟩; refine ⟨_, rfl, ?_⟩; have n0_ := Aside0.mk (blk_below (g := gb103) (o := .cells #[.int .i64 a0_0, .int .i64 a0_1, .int .i64 a0_2, .int .i64 a0_3, .int .i64 a0_4, .int .i64 a0_5, .float .f64 a0_6, .slice A0_7 l0_7.length c0_7, .int .i64 a0_8, .int .i64 a0_9, .float .f64 a0_10, .slice A0_11 l0_11.length c0_11, .int .i64 a0_12, .int .i64 a0_13, .float .f64 a0_14, .slice A0_15 l0_15.length c0_15, .slice A0_16 l0_16.length c0_16] 44 (0, 0)) (by (with_reducible repeat (first | refine blk_drewN ?_ _ | refine blk_drew ?_ | refine blk_alloc ?_ _)); exact BK103.out) hb); have n1_ := Aside0.mk (below_step (by repeat (first | (with_reducible first | exact HB.out | apply below_alloc | apply pw_below_drewN | apply below_drew1 | refine below_set ?_ GE103.out) | exact HB.out)) hb); clear BK103; clear HB; have BK103 := n0_; have HB := n1_; clear n0_ n1_; (try clear hb); (try clear hb2); (try clear hk); (try clear hi); have hcz33_0 : w32.cell? ⟨gb103, 0, none⟩ = some (.int .i64 a0_0) := (blk_cell BK103.out 0).trans rfl; have hcz33_1 : w32.cell? ⟨gb103, 1, none⟩ = some (.int .i64 a0_1) := (blk_cell BK103.out 1).trans rfl; have hcz33_2 : w32.cell? ⟨gb103, 2, none⟩ = some (.int .i64 a0_2) := (blk_cell BK103.out 2).trans rfl; have hcz33_3 : w32.cell? ⟨gb103, 3, none⟩ = some (.int .i64 a0_3) := (blk_cell BK103.out 3).trans rfl; have hcz33_4 : w32.cell? ⟨gb103, 4, none⟩ = some (.int .i64 a0_4) := (blk_cell BK103.out 4).trans rfl; have hcz33_5 : w32.cell? ⟨gb103, 5, none⟩ = some (.int .i64 a0_5) := (blk_cell BK103.out 5).trans rfl; have hcz33_6 : w32.cell? ⟨gb103, 6, none⟩ = some (.float .f64 a0_6) := (blk_cell BK103.out 6).trans rfl; have hcz33_7 : w32.cell? ⟨gb103, 7, none⟩ = some (.slice A0_7 l0_7.length c0_7) := (blk_cell BK103.out 7).trans rfl; have hcz33_8 : w32.cell? ⟨gb103, 8, none⟩ = some (.int .i64 a0_8) := (blk_cell BK103.out 8).trans rfl; have hcz33_9 : w32.cell? ⟨gb103, 9, none⟩ = some (.int .i64 a0_9) := (blk_cell BK103.out 9).trans rfl; have hcz33_10 : w32.cell? ⟨gb103, 10, none⟩ = some (.float .f64 a0_10) := (blk_cell BK103.out 10).trans rfl; have hcz33_11 : w32.cell? ⟨gb103, 11, none⟩ = some (.slice A0_11 l0_11.length c0_11) := (blk_cell BK103.out 11).trans rfl; have hcz33_12 : w32.cell? ⟨gb103, 12, none⟩ = some (.int .i64 a0_12) := (blk_cell BK103.out 12).trans rfl; have hcz33_13 : w32.cell? ⟨gb103, 13, none⟩ = some (.int .i64 a0_13) := (blk_cell BK103.out 13).trans rfl; have hcz33_14 : w32.cell? ⟨gb103, 14, none⟩ = some (.float .f64 a0_14) := (blk_cell BK103.out 14).trans rfl; have hcz33_15 : w32.cell? ⟨gb103, 15, none⟩ = some (.slice A0_15 l0_15.length c0_15) := (blk_cell BK103.out 15).trans rfl; have hcz33_16 : w32.cell? ⟨gb103, 16, none⟩ = some (.slice A0_16 l0_16.length c0_16) := (blk_cell BK103.out 16).trans rfl; have hfz33_0 := blk_frozen BK103.out 0; have hfz33_1 := blk_frozen BK103.out 1; have hfz33_2 := blk_frozen BK103.out 2; have hfz33_3 := blk_frozen BK103.out 3; have hfz33_4 := blk_frozen BK103.out 4; have hfz33_5 := blk_frozen BK103.out 5; have hfz33_6 := blk_frozen BK103.out 6; have hfz33_7 := blk_frozen BK103.out 7; have hfz33_8 := blk_frozen BK103.out 8; have hfz33_9 := blk_frozen BK103.out 9; have hfz33_10 := blk_frozen BK103.out 10; have hfz33_11 := blk_frozen BK103.out 11; have hfz33_12 := blk_frozen BK103.out 12; have hfz33_13 := blk_frozen BK103.out 13; have hfz33_14 := blk_frozen BK103.out 14; have hfz33_15 := blk_frozen BK103.out 15; have hfz33_16 := blk_frozen BK103.out 16) | ((with_reducible refine gate_callee (f := 74) rfl ?_); refine goesL_ (some 26) rfl rfl Try.func74 (by kernel_rfl) rfl #[.slice A0_16 l0_16.length c0_16, .int .i64 t106] rfl (by (try simp only [List.map_toArray, List.map_cons, List.map_nil]); first | done | rfl | (simp only [List.length_drop, List.length_take]; rfl)) ?_; (with_reducible refine (laws_szBoolS.calls _ _ l0_16 t106 t107 _ ?side1 ?side2 A24.out).mono ?_); (case side1 => repeat (first | exact (Kd.C_below HR0_16.out HB.out) | (with_reducible refine Kd.C_alloc ?_ _) | (with_reducible refine Kd.C_drewN ?_ _) | (with_reducible refine Kd.C_drew ?_))); (case side2 => exact HC0_16.out); rintro e w' ⟨rfl, ⟨nd, rfl⟩⟩; refine ⟨_, rfl, ?_⟩))
          go_ret
          exact ⟨by first | rfl | (simp [errW_none, errW_some] <;> rfl) | (simp [*, errW_none, errW_some] <;> rfl), by repeat (first | (with_reducible first | exact HB.out | apply below_alloc | apply pw_below_drewN | apply below_drew1 | refine below_set ?_ GE103.out) | exact HB.out)⟩
        · rw [if_neg c25] at H
          have c25b0 : decide (t107 < 0) = false := decide_eq_false c25
          clear c25
          obtain rfl := Option.some.inj H
          go_enter Try.func25, Try.ntmps25
          go_wp2_with (first | ((with_reducible refine gate_dst (N := 2) rfl ?_); refine box_event ?hg (N := 2) ?hd (cs := #[.int .i64 a0_0, .int .i64 a0_1, .int .i64 a0_2, .int .i64 a0_3, .int .i64 a0_4, .int .i64 a0_5, .float .f64 a0_6, .slice A0_7 l0_7.length c0_7, .int .i64 a0_8, .int .i64 a0_9, .float .f64 a0_10, .slice A0_11 l0_11.length c0_11, .int .i64 a0_12, .int .i64 a0_13, .float .f64 a0_14, .slice A0_15 l0_15.length c0_15, .slice A0_16 l0_16.length c0_16]) (t := 44) ?hr ?_; (case hd => rfl); (case hg => rfl); (case hr => first | (go_simp; done) | (go_simp; rfl)); intro gb103 hg w34 hbox hb; have n0_ := Aside0.mk (below_step (by repeat (first | (with_reducible first | exact HB.out | apply below_alloc | apply pw_below_drewN | apply below_drew1) | exact HB.out)) hb); have n1_ := Aside0.mk (hbox); have n2_ := Aside0.mk ((by rw [hg]; exact (below_size (by repeat (first | (with_reducible first | exact HB.out | apply below_alloc | apply pw_below_drewN | apply below_drew1) | exact HB.out))) : w.heap.size ≤ gb103)); have n3_ := Aside0.mk ((by rw [hg]; exact (below_size (by repeat (first | (with_reducible first | exact HB.out | apply below_alloc | apply pw_below_drewN | apply below_drew1) | exact HB.out))) : w.heap.size ≤ gb103)); clear HB; have HB := n0_; have BK103 := n1_; have GW103 := n2_; have GE103 := n3_; clear n0_ n1_ n2_ n3_; clear hb hbox hg; have hcz35_0 : w34.cell? ⟨gb103, 0, none⟩ = some (.int .i64 a0_0) := (blk_cell BK103.out 0).trans rfl; have hcz35_1 : w34.cell? ⟨gb103, 1, none⟩ = some (.int .i64 a0_1) := (blk_cell BK103.out 1).trans rfl; have hcz35_2 : w34.cell? ⟨gb103, 2, none⟩ = some (.int .i64 a0_2) := (blk_cell BK103.out 2).trans rfl; have hcz35_3 : w34.cell? ⟨gb103, 3, none⟩ = some (.int .i64 a0_3) := (blk_cell BK103.out 3).trans rfl; have hcz35_4 : w34.cell? ⟨gb103, 4, none⟩ = some (.int .i64 a0_4) := (blk_cell BK103.out 4).trans rfl; have hcz35_5 : w34.cell? ⟨gb103, 5, none⟩ = some (.int .i64 a0_5) := (blk_cell BK103.out 5).trans rfl; have hcz35_6 : w34.cell? ⟨gb103, 6, none⟩ = some (.float .f64 a0_6) := (blk_cell BK103.out 6).trans rfl; have hcz35_7 : w34.cell? ⟨gb103, 7, none⟩ = some (.slice A0_7 l0_7.length c0_7) := (blk_cell BK103.out 7).trans rfl; have hcz35_8 : w34.cell? ⟨gb103, 8, none⟩ = some (.int .i64 a0_8) := (blk_cell BK103.out 8).trans rfl; have hcz35_9 : w34.cell? ⟨gb103, 9, none⟩ = some (.int .i64 a0_9) := (blk_cell BK103.out 9).trans rfl; have hcz35_10 : w34.cell? ⟨gb103, 10, none⟩ = some (.float .f64 a0_10) := (blk_cell BK103.out 10).trans rfl; have hcz35_11 : w34.cell? ⟨gb103, 11, none⟩ = some (.slice A0_11 l0_11.length c0_11) := (blk_cell BK103.out 11).trans rfl; have hcz35_12 : w34.cell? ⟨gb103, 12, none⟩ = some (.int .i64 a0_12) := (blk_cell BK103.out 12).trans rfl; have hcz35_13 : w34.cell? ⟨gb103, 13, none⟩ = some (.int .i64 a0_13) := (blk_cell BK103.out 13).trans rfl; have hcz35_14 : w34.cell? ⟨gb103, 14, none⟩ = some (.float .f64 a0_14) := (blk_cell BK103.out 14).trans rfl; have hcz35_15 : w34.cell? ⟨gb103, 15, none⟩ = some (.slice A0_15 l0_15.length c0_15) := (blk_cell BK103.out 15).trans rfl; have hcz35_16 : w34.cell? ⟨gb103, 16, none⟩ = some (.slice A0_16 l0_16.length c0_16) := (blk_cell BK103.out 16).trans rfl; have hfz35_0 := blk_frozen BK103.out 0; have hfz35_1 := blk_frozen BK103.out 1; have hfz35_2 := blk_frozen BK103.out 2; have hfz35_3 := blk_frozen BK103.out 3; have hfz35_4 := blk_frozen BK103.out 4; have hfz35_5 := blk_frozen BK103.out 5; have hfz35_6 := blk_frozen BK103.out 6; have hfz35_7 := blk_frozen BK103.out 7; have hfz35_8 := blk_frozen BK103.out 8; have hfz35_9 := blk_frozen BK103.out 9; have hfz35_10 := blk_frozen BK103.out 10; have hfz35_11 := blk_frozen BK103.out 11; have hfz35_12 := blk_frozen BK103.out 12; have hfz35_13 := blk_frozen BK103.out 13; have hfz35_14 := blk_frozen BK103.out 14; have hfz35_15 := blk_frozen BK103.out 15; have hfz35_16 := blk_frozen BK103.out 16) | ((with_reducible refine gate_callee (f := 13) rfl ?_); refine goesL_ (some 8) rfl rfl Try.func13 (by kernel_rfl) rfl #[.agg #[.int .i64 a0_4, .int .i64 a0_5, .float .f64 a0_6, .slice A0_7 l0_7.length c0_7], .int .i64 a1] rfl (by (try simp only [List.map_toArray, List.map_cons, List.map_nil]); first | done | rfl | (simp only [List.length_drop, List.length_take]; rfl)) ?_; (with_reducible refine (laws_szItem.calls a0_4 a0_5 a0_6 _ _ l0_7 a1 t104 _ ?side1 ?side2 A3.out).mono ?_); (case side1 => repeat (first | exact (Kd.C_below HR0_7.out HB.out) | (with_reducible refine Kd.C_alloc ?_ _) | (with_reducible refine Kd.C_drewN ?_ _) | (with_reducible refine Kd.C_drew ?_))); (case side2 => exact HC0_7.out); rintro e w36 ⟨rfl, hb⟩; refine ⟨_, rfl, ?_⟩; have n0_ := Aside0.mk (blk_below (g := gb103) (o := .cells #[.int .i64 a0_0, .int .i64 a0_1, .int .i64 a0_2, .int .i64 a0_3, .int .i64 a0_4, .int .i64 a0_5, .float .f64 a0_6, .slice A0_7 l0_7.length c0_7, .int .i64 a0_8, .int .i64 a0_9, .float .f64 a0_10, .slice A0_11 l0_11.length c0_11, .int .i64 a0_12, .int .i64 a0_13, .float .f64 a0_14, .slice A0_15 l0_15.length c0_15, .slice A0_16 l0_16.length c0_16] 44 (0, 0)) (by (with_reducible repeat (first | refine blk_drewN ?_ _ | refine blk_drew ?_ | refine blk_alloc ?_ _)); exact BK103.out) hb); have n1_ := Aside0.mk (below_step (by repeat (first | (with_reducible first | exact HB.out | apply below_alloc | apply pw_below_drewN | apply below_drew1 | refine below_set ?_ GE103.out) | exact HB.out)) hb); clear BK103; clear HB; have BK103 := n0_; have HB := n1_; clear n0_ n1_; (try clear hb); (try clear hb2); (try clear hk); (try clear hi); have hcz37_0 : w36.cell? ⟨gb103, 0, none⟩ = some (.int .i64 a0_0) := (blk_cell BK103.out 0).trans rfl; have hcz37_1 : w36.cell? ⟨gb103, 1, none⟩ = some (.int .i64 a0_1) := (blk_cell BK103.out 1).trans rfl; have hcz37_2 : w36.cell? ⟨gb103, 2, none⟩ = some (.int .i64 a0_2) := (blk_cell BK103.out 2).trans rfl; have hcz37_3 : w36.cell? ⟨gb103, 3, none⟩ = some (.int .i64 a0_3) := (blk_cell BK103.out 3).trans rfl; have hcz37_4 : w36.cell? ⟨gb103, 4, none⟩ = some (.int .i64 a0_4) := (blk_cell BK103.out 4).trans rfl; have hcz37_5 : w36.cell? ⟨gb103, 5, none⟩ = some (.int .i64 a0_5) := (blk_cell BK103.out 5).trans rfl; have hcz37_6 : w36.cell? ⟨gb103, 6, none⟩ = some (.float .f64 a0_6) := (blk_cell BK103.out 6).trans rfl; have hcz37_7 : w36.cell? ⟨gb103, 7, none⟩ = some (.slice A0_7 l0_7.length c0_7) := (blk_cell BK103.out 7).trans rfl; have hcz37_8 : w36.cell? ⟨gb103, 8, none⟩ = some (.int .i64 a0_8) := (blk_cell BK103.out 8).trans rfl; have hcz37_9 : w36.cell? ⟨gb103, 9, none⟩ = some (.int .i64 a0_9) := (blk_cell BK103.out 9).trans rfl; have hcz37_10 : w36.cell? ⟨gb103, 10, none⟩ = some (.float .f64 a0_10) := (blk_cell BK103.out 10).trans rfl; have hcz37_11 : w36.cell? ⟨gb103, 11, none⟩ = some (.slice A0_11 l0_11.length c0_11) := (blk_cell BK103.out 11).trans rfl; have hcz37_12 : w36.cell? ⟨gb103, 12, none⟩ = some (.int .i64 a0_12) := (blk_cell BK103.out 12).trans rfl; have hcz37_13 : w36.cell? ⟨gb103, 13, none⟩ = some (.int .i64 a0_13) := (blk_cell BK103.out 13).trans rfl; have hcz37_14 : w36.cell? ⟨gb103, 14, none⟩ = some (.float .f64 a0_14) := (blk_cell BK103.out 14).trans rfl; have hcz37_15 : w36.cell? ⟨gb103, 15, none⟩ = some (.slice A0_15 l0_15.length c0_15) := (blk_cell BK103.out 15).trans rfl; have hcz37_16 : w36.cell? ⟨gb103, 16, none⟩ = some (.slice A0_16 l0_16.length c0_16) := (blk_cell BK103.out 16).trans rfl; have hfz37_0 := blk_frozen BK103.out 0; have hfz37_1 := blk_frozen BK103.out 1; have hfz37_2 := blk_frozen BK103.out 2; have hfz37_3 := blk_frozen BK103.out 3; have hfz37_4 := blk_frozen BK103.out 4; have hfz37_5 := blk_frozen BK103.out 5; have hfz37_6 := blk_frozen BK103.out 6; have hfz37_7 := blk_frozen BK103.out 7; have hfz37_8 := blk_frozen BK103.out 8; have hfz37_9 := blk_frozen BK103.out 9; have hfz37_10 := blk_frozen BK103.out 10; have hfz37_11 := blk_frozen BK103.out 11; have hfz37_12 := blk_frozen BK103.out 12; have hfz37_13 := blk_frozen BK103.out 13; have hfz37_14 := blk_frozen BK103.out 14; have hfz37_15 := blk_frozen BK103.out 15; have hfz37_16 := blk_frozen BK103.out 16) | ((with_reducible refine gate_callee (f := 13) rfl ?_); refine goesL_ (some 14) rfl rfl Try.func13 (by kernel_rfl) rfl #[.agg #[.int .i64 a0_8, .int .i64 a0_9, .float .f64 a0_10, .slice A0_11 l0_11.length c0_11], .int .i64 t104] rfl (by (try simp only [List.map_toArray, List.map_cons, List.map_nil]); first | done | rfl | (simp only [List.length_drop, List.length_take]; rfl)) ?_; (with_reducible refine (laws_szItem.calls a0_8 a0_9 a0_10 _ _ l0_11 t104 t105 _ ?side1 ?side2 A8.out).mono ?_); (case side1 => repeat (first | exact (Kd.C_below HR0_11.out HB.out) | (with_reducible refine Kd.C_alloc ?_ _) | (with_reducible refine Kd.C_drewN ?_ _) | (with_reducible refine Kd.C_drew ?_))); (case side2 => exact HC0_11.out); rintro e w38 ⟨rfl, hb⟩; refine ⟨_, rfl, ?_⟩; have n0_ := Aside0.mk (blk_below (g := gb103) (o := .cells #[.int .i64 a0_0, .int .i64 a0_1, .int .i64 a0_2, .int .i64 a0_3, .int .i64 a0_4, .int .i64 a0_5, .float .f64 a0_6, .slice A0_7 l0_7.length c0_7, .int .i64 a0_8, .int .i64 a0_9, .float .f64 a0_10, .slice A0_11 l0_11.length c0_11, .int .i64 a0_12, .int .i64 a0_13, .float .f64 a0_14, .slice A0_15 l0_15.length c0_15, .slice A0_16 l0_16.length c0_16] 44 (0, 0)) (by (with_reducible repeat (first | refine blk_drewN ?_ _ | refine blk_drew ?_ | refine blk_alloc ?_ _)); exact BK103.out) hb); have n1_ := Aside0.mk (below_step (by repeat (first | (with_reducible first | exact HB.out | apply below_alloc | apply pw_below_drewN | apply below_drew1 | refine below_set ?_ GE103.out) | exact HB.out)) hb); clear BK103; clear HB; have BK103 := n0_; have HB := n1_; clear n0_ n1_; (try clear hb); (try clear hb2); (try clear hk); (try clear hi); have hcz39_0 : w38.cell? ⟨gb103, 0, none⟩ = some (.int .i64 a0_0) := (blk_cell BK103.out 0).trans rfl; have hcz39_1 : w38.cell? ⟨gb103, 1, none⟩ = some (.int .i64 a0_1) := (blk_cell BK103.out 1).trans rfl; have hcz39_2 : w38.cell? ⟨gb103, 2, none⟩ = some (.int .i64 a0_2) := (blk_cell BK103.out 2).trans rfl; have hcz39_3 : w38.cell? ⟨gb103, 3, none⟩ = some (.int .i64 a0_3) := (blk_cell BK103.out 3).trans rfl; have hcz39_4 : w38.cell? ⟨gb103, 4, none⟩ = some (.int .i64 a0_4) := (blk_cell BK103.out 4).trans rfl; have hcz39_5 : w38.cell? ⟨gb103, 5, none⟩ = some (.int .i64 a0_5) := (blk_cell BK103.out 5).trans rfl; have hcz39_6 : w38.cell? ⟨gb103, 6, none⟩ = some (.float .f64 a0_6) := (blk_cell BK103.out 6).trans rfl; have hcz39_7 : w38.cell? ⟨gb103, 7, none⟩ = some (.slice A0_7 l0_7.length c0_7) := (blk_cell BK103.out 7).trans rfl; have hcz39_8 : w38.cell? ⟨gb103, 8, none⟩ = some (.int .i64 a0_8) := (blk_cell BK103.out 8).trans rfl; have hcz39_9 : w38.cell? ⟨gb103, 9, none⟩ = some (.int .i64 a0_9) := (blk_cell BK103.out 9).trans rfl; have hcz39_10 : w38.cell? ⟨gb103, 10, none⟩ = some (.float .f64 a0_10) := (blk_cell BK103.out 10).trans rfl; have hcz39_11 : w38.cell? ⟨gb103, 11, none⟩ = some (.slice A0_11 l0_11.length c0_11) := (blk_cell BK103.out 11).trans rfl; have hcz39_12 : w38.cell? ⟨gb103, 12, none⟩ = some (.int .i64 a0_12) := (blk_cell BK103.out 12).trans rfl; have hcz39_13 : w38.cell? ⟨gb103, 13, none⟩ = some (.int .i64 a0_13) := (blk_cell BK103.out 13).trans rfl; have hcz39_14 : w38.cell? ⟨gb103, 14, none⟩ = some (.float .f64 a0_14) := (blk_cell BK103.out 14).trans rfl; have hcz39_15 : w38.cell? ⟨gb103, 15, none⟩ = some (.slice A0_15 l0_15.length c0_15) := (blk_cell BK103.out 15).trans rfl; have hcz39_16 : w38.cell? ⟨gb103, 16, none⟩ = some (.slice A0_16 l0_16.length c0_16) := (blk_cell BK103.out 16).trans rfl; have hfz39_0 := blk_frozen BK103.out 0; have hfz39_1 := blk_frozen BK103.out 1; have hfz39_2 := blk_frozen BK103.out 2; have hfz39_3 := blk_frozen BK103.out 3; have hfz39_4 := blk_frozen BK103.out 4; have hfz39_5 := blk_frozen BK103.out 5; have hfz39_6 := blk_frozen BK103.out 6; have hfz39_7 := blk_frozen BK103.out 7; have hfz39_8 := blk_frozen BK103.out 8; have hfz39_9 := blk_frozen BK103.out 9; have hfz39_10 := blk_frozen BK103.out 10; have hfz39_11 := blk_frozen BK103.out 11; have hfz39_12 := blk_frozen BK103.out 12; have hfz39_13 := blk_frozen BK103.out 13; have hfz39_14 := blk_frozen BK103.out 14; have hfz39_15 := blk_frozen BK103.out 15; have hfz39_16 := blk_frozen BK103.out 16) | ((with_reducible refine gate_callee (f := 13) rfl ?_); refine goesL_ (some 20) rfl rfl Try.func13 (by kernel_rfl) rfl #[.agg #[.int .i64 a0_12, .int .i64 a0_13, .float .f64 a0_14, .slice A0_15 l0_15.length c0_15], .int .i64 t105] rfl (by (try simp only [List.map_toArray, List.map_cons, List.map_nil]); first | done | rfl | (simp only [List.length_drop, List.length_take]; rfl)) ?_; (with_reducible refine (laws_szItem.calls a0_12 a0_13 a0_14 _ _ l0_15 t105 t106 _ ?side1 ?side2 A15.out).mono ?_); (case side1 => repeat (first | exact (Kd.C_below HR0_15.out HB.out) | (with_reducible refine Kd.C_alloc ?_ _) | (with_reducible refine Kd.C_drewN ?_ _) | (with_reducible refine Kd.C_drew ?_))); (case side2 => exact HC0_15.out); rintro e w40 ⟨rfl, hb⟩; refine ⟨_, rfl, ?_⟩; have n0_ := Aside0.mk (blk_below (g := gb103) (o := .cells #[.int .i64 a0_0, .int .i64 a0_1, .int .i64 a0_2, .int .i64 a0_3, .int .i64 a0_4, .int .i64 a0_5, .float .f64 a0_6, .slice A0_7 l0_7.length c0_7, .int .i64 a0_8, .int .i64 a0_9, .float .f64 a0_10, .slice A0_11 l0_11.length c0_11, .int .i64 a0_12, .int .i64 a0_13, .float .f64 a0_14, .slice A0_15 l0_15.length c0_15, .slice A0_16 l0_16.length c0_16] 44 (0, 0)) (by (with_reducible repeat (first | refine blk_drewN ?_ _ | refine blk_drew ?_ | refine blk_alloc ?_ _)); exact BK103.out) hb); have n1_ := Aside0.mk (below_step (by repeat (first | (with_reducible first | exact HB.out | apply below_alloc | apply pw_below_drewN | apply below_drew1 | refine below_set ?_ GE103.out) | exact HB.out)) hb); clear BK103; clear HB; have BK103 := n0_; have HB := n1_; clear n0_ n1_; (try clear hb); (try clear hb2); (try clear hk); (try clear hi); have hcz41_0 : w40.cell? ⟨gb103, 0, none⟩ = some (.int .i64 a0_0) := (blk_cell BK103.out 0).trans rfl; have hcz41_1 : w40.cell? ⟨gb103, 1, none⟩ = some (.int .i64 a0_1) := (blk_cell BK103.out 1).trans rfl; have hcz41_2 : w40.cell? ⟨gb103, 2, none⟩ = some (.int .i64 a0_2) := (blk_cell BK103.out 2).trans rfl; have hcz41_3 : w40.cell? ⟨gb103, 3, none⟩ = some (.int .i64 a0_3) := (blk_cell BK103.out 3).trans rfl; have hcz41_4 : w40.cell? ⟨gb103, 4, none⟩ = some (.int .i64 a0_4) := (blk_cell BK103.out 4).trans rfl; have hcz41_5 : w40.cell? ⟨gb103, 5, none⟩ = some (.int .i64 a0_5) := (blk_cell BK103.out 5).trans rfl; have hcz41_6 : w40.cell? ⟨gb103, 6, none⟩ = some (.float .f64 a0_6) := (blk_cell BK103.out 6).trans rfl; have hcz41_7 : w40.cell? ⟨gb103, 7, none⟩ = some (.slice A0_7 l0_7.length c0_7) := (blk_cell BK103.out 7).trans rfl; have hcz41_8 : w40.cell? ⟨gb103, 8, none⟩ = some (.int .i64 a0_8) := (blk_cell BK103.out 8).trans rfl; have hcz41_9 : w40.cell? ⟨gb103, 9, none⟩ = some (.int .i64 a0_9) := (blk_cell BK103.out 9).trans rfl; have hcz41_10 : w40.cell? ⟨gb103, 10, none⟩ = some (.float .f64 a0_10) := (blk_cell BK103.out 10).trans rfl; have hcz41_11 : w40.cell? ⟨gb103, 11, none⟩ = some (.slice A0_11 l0_11.length c0_11) := (blk_cell BK103.out 11).trans rfl; have hcz41_12 : w40.cell? ⟨gb103, 12, none⟩ = some (.int .i64 a0_12) := (blk_cell BK103.out 12).trans rfl; have hcz41_13 : w40.cell? ⟨gb103, 13, none⟩ = some (.int .i64 a0_13) := (blk_cell BK103.out 13).trans rfl; have hcz41_14 : w40.cell? ⟨gb103, 14, none⟩ = some (.float .f64 a0_14) := (blk_cell BK103.out 14).trans rfl; have hcz41_15 : w40.cell? ⟨gb103, 15, none⟩ = some (.slice A0_15 l0_15.length c0_15) := (blk_cell BK103.out 15).trans rfl; have hcz41_16 : w40.cell? ⟨gb103, 16, none⟩ = some (.slice A0_16 l0_16.length c0_16) := (blk_cell BK103.out 16).trans rfl; have hfz41_0 := blk_frozen BK103.out 0; have hfz41_1 := blk_frozen BK103.out 1; have hfz41_2 := blk_frozen BK103.out 2; have hfz41_3 := blk_frozen BK103.out 3; have hfz41_4 := blk_frozen BK103.out 4; have hfz41_5 := blk_frozen BK103.out 5; have hfz41_6 := blk_frozen BK103.out 6; have hfz41_7 := blk_frozen BK103.out 7; have hfz41_8 := blk_frozen BK103.out 8; have hfz41_9 := blk_frozen BK103.out 9; have hfz41_10 := blk_frozen BK103.out 10; have hfz41_11 := blk_frozen BK103.out 11; have hfz41_12 := blk_frozen BK103.out 12; have hfz41_13 := blk_frozen BK103.out 13; have hfz41_14 := blk_frozen BK103.out 14; have hfz41_15 := blk_frozen BK103.out 15; have hfz41_16 := blk_frozen BK103.out 16) | ((with_reducible refine gate_callee (f := 74) rfl ?_); refine goesL_ (some 26) rfl rfl Try.func74 (by kernel_rfl) rfl #[.slice A0_16 l0_16.length c0_16, .int .i64 t106] rfl (by (try simp only [List.map_toArray, List.map_cons, List.map_nil]); first | done | rfl | (simp only [List.length_drop, List.length_take]; rfl)) ?_; (with_reducible refine (laws_szBoolS.calls _ _ l0_16 t106 t107 _ ?side1 ?side2 A24.out).mono ?_); (case side1 => repeat (first | exact (Kd.C_below HR0_16.out HB.out) | (with_reducible refine Kd.C_alloc ?_ _) | (with_reducible refine Kd.C_drewN ?_ _) | (with_reducible refine Kd.C_drew ?_))); (case side2 => exact HC0_16.out); rintro e w' ⟨rfl, ⟨nd, rfl⟩⟩; refine ⟨_, rfl, ?_⟩))
          go_ret
          exact ⟨by first | rfl | (simp [errW_none, errW_some] <;> rfl) | (simp [*, errW_none, errW_some] <;> rfl), by repeat (first | (with_reducible first | exact HB.out | apply below_alloc | apply pw_below_drewN | apply below_drew1 | refine below_set ?_ GE103.out) | exact HB.out)⟩

/-! ### spec_FloatBits: function 120, by hand -/
def spec_FloatBits.f (a : Nat) : Option Int := if a < 18446744073709551616 then some ((HFloat.canon a : Nat) : Int) else none
theorem fb_geq {x : Nat} (h : x < 9218868437227405312) : (HFloat.fgt x 4611686018427387904 || HFloat.feq x 4611686018427387904) = decide (4611686018427387904 ≤ x) := by
  rw [HFloat.fgt_eq, HFloat.feq_eq]
  rw [show FloatKind.f64.format.order x 4611686018427387904 = some (compare x 4611686018427387904) from HFloat.order_fin h (by omega)]
  rcases Nat.lt_trichotomy x 4611686018427387904 with h | h | h
  · rw [Nat.compare_eq_lt.2 h, decide_eq_false (by omega)]; rfl
  · rw [Nat.compare_eq_eq.2 h, decide_eq_true (by omega)]; rfl
  · rw [Nat.compare_eq_gt.2 h, decide_eq_true (by omega)]; rfl
theorem fb_lss {x : Nat} (h : x < 9218868437227405312) : (HFloat.flt x 4607182418800017408) = decide (x < 4607182418800017408) := by
  rw [HFloat.flt_eq]
  rw [show FloatKind.f64.format.order x 4607182418800017408 = some (compare x 4607182418800017408) from HFloat.order_fin h (by omega)]
  rcases Nat.lt_trichotomy x 4607182418800017408 with h | h | h
  · rw [Nat.compare_eq_lt.2 h, decide_eq_true (by omega)]; rfl
  · rw [Nat.compare_eq_eq.2 h, decide_eq_false (by omega)]; rfl
  · rw [Nat.compare_eq_gt.2 h, decide_eq_false (by omega)]; rfl
theorem fb_max {x : Nat} (h : x < 9218868437227405312) : (HFloat.fgt x 9218868437227405311) = false := by
  rw [HFloat.fgt_eq]
  rw [show FloatKind.f64.format.order x 9218868437227405311 = some (compare x 9218868437227405311) from HFloat.order_fin h (by omega)]
  rcases Nat.lt_or_eq_of_le (show x ≤ 9218868437227405311 by omega) with h | h
  · rw [Nat.compare_eq_lt.2 h]; rfl
  · rw [Nat.compare_eq_eq.2 h]; rfl
theorem fb_zero {x : Nat} (h : x ≤ 9218868437227405312) (h0 : 0 < x) : (HFloat.feq x 0) = false := by
  rw [HFloat.feq_eq]
  have := HFloat.order_zero (x := x) (by omega) (by omega)
  rw [show FloatKind.f64.format.order x 0 = _ from this, if_neg (by omega), if_pos (by omega)]
  rfl
theorem fb_dbls {r : Nat} (h : 4503599627370496 ≤ r) : ∀ k, HFloat.dbls k r = r + k * 4503599627370496
  | 0 => by simp [HFloat.dbls]
  | k + 1 => by
    rw [HFloat.dbls_succ, fb_dbls h k]
    unfold HFloat.dbl
    rw [if_neg (by omega)]
    omega
theorem fb_or {s f : Nat} (hs : s = 0 ∨ s = 9223372036854775808) (hf : f < 9223372036854775808) : Go.bits .or .u64 (s : Int) (f : Int) = ((s + f : Nat) : Int) := by
  rw [bits_or_u64_nat _ _ (by omega) (by omega)]
  congr 1
  rcases hs with rfl | rfl
  · simp
  · rw [show (9223372036854775808 : Nat) = 2 ^ 63 * 1 by omega, ← Nat.two_pow_add_eq_or_of_lt (by omega) 1]
theorem fb_or2 {s e f : Nat} (hs : s = 0 ∨ s = 9223372036854775808) (he : e < 2048) (hf : f < 4503599627370496) : Go.bits .or .u64 (Go.bits .or .u64 (s : Int) ((e * 4503599627370496 : Nat) : Int)) (f : Int) = ((s + (e * 4503599627370496 + f) : Nat) : Int) := by
  rw [fb_or hs (by omega), bits_or_u64_nat _ _ (by omega) (by omega)]
  congr 1
  have h1 : s + e * 4503599627370496 = s ||| e * 4503599627370496 := by
    rcases hs with rfl | rfl
    · simp
    · rw [show (9223372036854775808 : Nat) = 2 ^ 63 * 1 by omega, ← Nat.two_pow_add_eq_or_of_lt (by omega) 1]
  rw [h1, HFloat.or_parts hs he hf]
  omega
set_option maxHeartbeats 4000000 in
set_option maxRecDepth 100000 in
theorem spec_FloatBits.calls (a0 : Nat) (r : Int) (w : World) (h : spec_FloatBits.f a0 = some r) :
    Calls Try.prog 120 #[.float .f64 a0] w fun e w' => e = .returned (.int .u64 r) ∧ ∃ nd, w' = w.drewN nd := by
  obtain ⟨hlt, rfl⟩ : a0 < 18446744073709551616 ∧ ((HFloat.canon a0 : Nat) : Int) = r := by
    unfold spec_FloatBits.f at h
    split at h
    · exact ⟨by assumption, Option.some.inj h⟩
    · cases h
  clear h
  by_cases hN : 9218868437227405312 < a0 % 9223372036854775808
  · have q1 : (!HFloat.feq a0 a0) = true := by rw [HFloat.feq_eq, show FloatKind.f64.format.order a0 a0 = none from HFloat.order_eq_nan hN a0]; rfl
    have qc : HFloat.canon a0 = 9221120237041090560 := by unfold HFloat.canon HFloat.isN; rw [decide_eq_true hN]; rfl
    clear hN hlt
    go_enter Try.func120, Try.ntmps120
    go_wp2
    go_ret
    exact ⟨by rw [qc]; rfl, 0, rfl⟩
  have hM : a0 % 9223372036854775808 ≤ 9218868437227405312 := by omega
  have q1 : (!HFloat.feq a0 a0) = false := by rw [HFloat.feq_eq, show FloatKind.f64.format.order a0 a0 = _ from HFloat.order_self hM]; rfl
  have qc : HFloat.canon a0 = a0 := by unfold HFloat.canon HFloat.isN; rw [decide_eq_false hN]; rfl
  rw [qc]
  have qz := HFloat.order_zero hlt hM
  by_cases hz : a0 % 9223372036854775808 = 0
  · rw [if_pos hz] at qz
    have q2 : (HFloat.flt a0 0) = false := by rw [HFloat.flt_eq, show FloatKind.f64.format.order a0 0 = _ from qz]; rfl
    have q3 : (HFloat.feq a0 0) = true := by rw [HFloat.feq_eq, show FloatKind.f64.format.order a0 0 = _ from qz]; rfl
    obtain rfl | rfl : a0 = 0 ∨ a0 = 9223372036854775808 := by omega
    · have q4 : ∀ w : World, (binOp .quo 22 (.float .f64 4607182418800017408) (.float .f64 0)).run Try.prog w = .ok (.float .f64 9218868437227405312) w := fun w => HFloat.run_float_arith w .quo 22 .f64 _ _ _ HFloat.div_zero
      have q5 : (HFloat.flt 9218868437227405312 0) = false := by rw [HFloat.flt_eq, show FloatKind.f64.format.order 9218868437227405312 0 = _ from HFloat.order_inf (by omega)]; rfl
      clear hlt hN hM qc qz hz
      go_enter Try.func120, Try.ntmps120
      go_wp2
      go_ret
      exact ⟨by rfl, 0, rfl⟩
    · have q4 : ∀ w : World, (binOp .quo 22 (.float .f64 4607182418800017408) (.float .f64 9223372036854775808)).run Try.prog w = .ok (.float .f64 (9223372036854775808 + 9218868437227405312)) w := fun w => HFloat.run_float_arith w .quo 22 .f64 _ _ _ HFloat.div_zeroN
      have q5 : (HFloat.flt (9223372036854775808 + 9218868437227405312) 0) = true := by rw [HFloat.flt_eq, show FloatKind.f64.format.order (9223372036854775808 + 9218868437227405312) 0 = _ from HFloat.order_infN (by omega)]; rfl
      have q6 : Op.negFloat .f64 9223372036854775808 = 0 := HFloat.neg_pos (r := 0) (by omega)
      have q7 : (HFloat.feq 0 0) = true := by rw [HFloat.feq_eq, show FloatKind.f64.format.order 0 0 = _ from HFloat.order_self_fin (by omega)]; rfl
      clear hlt hN hM qc qz hz
      go_enter Try.func120, Try.ntmps120
      go_wp2
      go_ret
      exact ⟨by rfl, 0, rfl⟩
  rw [if_neg hz] at qz
  have q3 : (HFloat.feq a0 0) = false := by
    rw [HFloat.feq_eq]
    rw [show FloatKind.f64.format.order a0 0 = _ from qz]
    split <;> rfl
  by_cases hs : a0 < 9223372036854775808
  · obtain ⟨x, hx0⟩ : ∃ x : Nat, x = a0 := ⟨_, rfl⟩
    subst hx0
    rw [if_pos hs] at qz
    have q2 : (HFloat.flt x 0) = false := by rw [HFloat.flt_eq, show FloatKind.f64.format.order x 0 = _ from qz]; rfl
    have h0x : x % 9223372036854775808 = x := Nat.mod_eq_of_lt hs
    rw [h0x] at hM hz hN
    clear h0x; have h0x : 0 < x := by omega
    clear qz qc hlt hN hz
    by_cases hI : x = 9218868437227405312
    · subst hI
      have q8 : (HFloat.fgt 9218868437227405312 9218868437227405311) = true := by rw [HFloat.fgt_eq, show FloatKind.f64.format.order 9218868437227405312 9218868437227405311 = _ from HFloat.order_inf (by omega)]; rfl
      go_enter Try.func120, Try.ntmps120
      go_wp2
      go_ret
      exact ⟨by rfl, 0, rfl⟩
    have hx : x < 9218868437227405312 := by omega
    have q8 : (HFloat.fgt x 9218868437227405311) = false := fb_max hx
    have HX := Aside0.mk hx
    by_cases hA : 4607182418800017408 ≤ x
    · -- at least one
      obtain ⟨n, f, hn, hf, he⟩ : ∃ n f : Nat, n < 1024 ∧ f < 4503599627370496 ∧ x = 4607182418800017408 + n * 4503599627370496 + f := ⟨x / 4503599627370496 - 1023, x % 4503599627370496, by omega, Nat.mod_lt _ (by omega), by omega⟩
      have HN := Aside0.mk hn
      have HF := Aside0.mk hf
      have HE := Aside0.mk he
      clear hn hf hx hA hI h0x he
      go_enter Try.func120, Try.ntmps120
      go_wp2
      go_loop [4, 5] (fun v e => ∃ k y : Nat, k ≤ n ∧ Aside0 (y + k * 4503599627370496 = x) ∧ v = .float .f64 y ∧ e = .int .i64 k) (fun _ e => n - (intOf e).toNat)
      case atStart => exact ⟨0, x, Nat.zero_le _, ⟨by simp⟩, rfl, rfl⟩
      case round =>
        obtain ⟨k, y, hk, HY, rfl, rfl⟩ := hrel
        have hn := HN.out; have hf := HF.out; have hx := HX.out; have hy := HY.out; have he := HE.out
        by_cases hlt : k < n
        · have p1 : (HFloat.fgt y 4611686018427387904 || HFloat.feq y 4611686018427387904) = true := by rw [fb_geq (by omega), decide_eq_true (by omega)]
          obtain ⟨z, hz⟩ : ∃ z, z = y - 4503599627370496 := ⟨_, rfl⟩
          have HZ := Aside0.mk (show z + (k + 1) * 4503599627370496 = x by omega)
          have p2 : ∀ w : World, (binOp .quo 22 (.float .f64 y) (.float .f64 4611686018427387904)).run Try.prog w = .ok (.float .f64 z) w := fun w => HFloat.run_float_arith w .quo 22 .f64 _ _ _ (by rw [hz]; exact HFloat.div_two (by omega) (by omega))
          clear hf hx hy he hz
          go_wp2
          go_round
          case rel => exact ⟨k + 1, z, by omega, HZ, rfl, by go_num⟩
          case measure => simp [intOf]; omega
        · obtain rfl : k = n := by omega
          have hy2 : y = 4607182418800017408 + f := by omega
          have p1 : (HFloat.fgt y 4611686018427387904 || HFloat.feq y 4611686018427387904) = false := by rw [fb_geq (by omega), decide_eq_false (by omega)]
          have p2 : (HFloat.flt y 4607182418800017408) = false := by rw [fb_lss (by omega), decide_eq_false (by omega)]
          have p3 : ∀ w : World, (binOp .sub 22 (.float .f64 y) (.float .f64 4607182418800017408)).run Try.prog w = .ok (.float .f64 (HFloat.dbls 1022 f)) w := fun w => HFloat.run_float_arith w .sub 22 .f64 _ _ _ (by rw [hy2]; exact HFloat.sub_one hf)
          have p4 : ∀ w : World, (binOp .mul 22 (.float .f64 (HFloat.dbls 1022 f)) (.float .f64 4841369599423283200)).run Try.prog w = .ok (.float .f64 (HFloat.whole f)) w := fun w => HFloat.run_float_arith w .mul 22 .f64 _ _ _ (HFloat.mul_big hf)
          have p5 : ∀ w : World, (convert 22 144 (.float .f64 (HFloat.whole f))).run Try.prog w = .ok (.int .u64 f) w := fun w => HFloat.run_convert_float_int w 22 144 .f64 .u64 _ _ (by kernel_rfl) Try.underlying144 (HFloat.floor_whole hf)
          clear hn hf hx hy he hy2
          go_wp2
          go_loop [4, 5] (fun v e => v = .float .f64 y ∧ e = .int .i64 k) (fun _ _ => 0)
          case atStart => exact ⟨rfl, rfl⟩
          case round =>
            obtain ⟨rfl, rfl⟩ := hrel
            go_wp2
            go_ret
            have hn := HN.out; have hf := HF.out; have hx := HX.out; have he := HE.out
            refine ⟨?_, 0, rfl⟩
            have w1 : IntKind.u64.wrap (IntKind.u64.wrap (wrap64 ((k : Int) + 1023)) * 4503599627370496) = (((k + 1023) * 4503599627370496 : Nat) : Int) := by
              rw [IntKind.wrap_u64, IntKind.wrap_u64]
              unfold wrap64
              omega
            have e' : Go.bits .or .u64 (Go.bits .or .u64 (0 : Int) (IntKind.u64.wrap (IntKind.u64.wrap (wrap64 ((k : Int) + 1023)) * 4503599627370496))) (f : Int) = ((x : Nat) : Int) := by
              rw [w1]
              exact (fb_or2 (s := 0) (e := k + 1023) (f := f) (Or.inl rfl) (by omega) hf).trans (congrArg (fun z : Nat => (z : Int)) (by omega))
            exact congrArg (fun z : Int => Ending.returned (Value.int .u64 z)) e'
    by_cases hB : 4503599627370496 ≤ x
    · -- below one
      obtain ⟨n, f, hn, hn2, hf, he⟩ : ∃ n f : Nat, n < 1023 ∧ 0 < n ∧ f < 4503599627370496 ∧ x + n * 4503599627370496 = 4607182418800017408 + f := ⟨1023 - x / 4503599627370496, x % 4503599627370496, by omega, by omega, Nat.mod_lt _ (by omega), by omega⟩
      have HN := Aside0.mk hn
      have HN2 := Aside0.mk hn2
      have HF := Aside0.mk hf
      have HE := Aside0.mk he
      have HB := Aside0.mk hB
      have p1 : (HFloat.fgt x 4611686018427387904 || HFloat.feq x 4611686018427387904) = false := by rw [fb_geq (by omega), decide_eq_false (by omega)]
      clear hn hn2 hf hx hA hI h0x hB he
      go_enter Try.func120, Try.ntmps120
      go_wp2
      go_loop [4, 5] (fun v e => v = .float .f64 x ∧ e = .int .i64 0) (fun _ _ => 0)
      case atStart => exact ⟨rfl, rfl⟩
      case round =>
        obtain ⟨rfl, rfl⟩ := hrel
        go_wp2
        go_loop [4, 5] (fun v e => ∃ k y : Nat, k ≤ n ∧ Aside0 (x + k * 4503599627370496 = y) ∧ v = .float .f64 y ∧ e = .int .i64 (-(k : Int))) (fun _ e => n - (-(intOf e)).toNat)
        case atStart => exact ⟨0, x, Nat.zero_le _, ⟨by simp⟩, rfl, rfl⟩
        case round =>
          obtain ⟨k, y, hk, HY, rfl, rfl⟩ := hrel
          have hn := HN.out; have hf := HF.out; have hx := HX.out; have hy := HY.out; have he := HE.out; have hB := HB.out
          by_cases hlt : k < n
          · have p2 : (HFloat.flt y 4607182418800017408) = true := by rw [fb_lss (by omega), decide_eq_true (by omega)]
            obtain ⟨z, hz⟩ : ∃ z, z = y + 4503599627370496 := ⟨_, rfl⟩
            have HZ := Aside0.mk (show x + (k + 1) * 4503599627370496 = z by rw [hz, ← hy, Nat.add_mul, Nat.one_mul, Nat.add_assoc])
            have hd : HFloat.dbl y = z := by unfold HFloat.dbl; rw [if_neg (by omega)]; exact hz.symm
            have p3 : ∀ w : World, (binOp .mul 22 (.float .f64 y) (.float .f64 4611686018427387904)).run Try.prog w = .ok (.float .f64 z) w := fun w => HFloat.run_float_arith w .mul 22 .f64 _ _ _ (by rw [← hd]; exact HFloat.mul_two (by omega))
            have p6 : decide ((k : Int) < 1022) = true := decide_eq_true (by omega)
            clear hf hx hy he hB hz hd
            go_wp2
            go_round
            case rel => exact ⟨k + 1, z, by omega, HZ, rfl, by go_num⟩
            case measure => simp [intOf]; omega
          · obtain rfl : k = n := by omega
            have hy2 : y = 4607182418800017408 + f := by omega
            have p2 : (HFloat.flt y 4607182418800017408) = false := by rw [fb_lss (by omega), decide_eq_false (by omega)]
            have p3 : ∀ w : World, (binOp .sub 22 (.float .f64 y) (.float .f64 4607182418800017408)).run Try.prog w = .ok (.float .f64 (HFloat.dbls 1022 f)) w := fun w => HFloat.run_float_arith w .sub 22 .f64 _ _ _ (by rw [hy2]; exact HFloat.sub_one hf)
            have p4 : ∀ w : World, (binOp .mul 22 (.float .f64 (HFloat.dbls 1022 f)) (.float .f64 4841369599423283200)).run Try.prog w = .ok (.float .f64 (HFloat.whole f)) w := fun w => HFloat.run_float_arith w .mul 22 .f64 _ _ _ (HFloat.mul_big hf)
            have p5 : ∀ w : World, (convert 22 144 (.float .f64 (HFloat.whole f))).run Try.prog w = .ok (.int .u64 f) w := fun w => HFloat.run_convert_float_int w 22 144 .f64 .u64 _ _ (by kernel_rfl) Try.underlying144 (HFloat.floor_whole hf)
            clear hn hf hx hy he hB hy2
            go_wp2
            go_ret
            have hn := HN.out; have hf := HF.out; have hx := HX.out; have he := HE.out; have hB := HB.out
            refine ⟨?_, 0, rfl⟩
            have w1 : IntKind.u64.wrap (IntKind.u64.wrap (wrap64 (-(k : Int) + 1023)) * 4503599627370496) = (((1023 - k) * 4503599627370496 : Nat) : Int) := by
              rw [IntKind.wrap_u64, IntKind.wrap_u64]
              unfold wrap64
              omega
            have e' : Go.bits .or .u64 (Go.bits .or .u64 (0 : Int) (IntKind.u64.wrap (IntKind.u64.wrap (wrap64 (-(k : Int) + 1023)) * 4503599627370496))) (f : Int) = ((x : Nat) : Int) := by
              rw [w1]
              exact (fb_or2 (s := 0) (e := 1023 - k) (f := f) (Or.inl rfl) (by omega) hf).trans (congrArg (fun z : Nat => (z : Int)) (by omega))
            exact congrArg (fun z : Int => Ending.returned (Value.int .u64 z)) e'
    · -- less than the least normal one
      have p1 : (HFloat.fgt x 4611686018427387904 || HFloat.feq x 4611686018427387904) = false := by rw [fb_geq (by omega), decide_eq_false (by omega)]
      have HS := Aside0.mk (show x < 4503599627370496 by omega)
      clear hx hA hI h0x
      go_enter Try.func120, Try.ntmps120
      go_wp2
      go_loop [4, 5] (fun v e => v = .float .f64 x ∧ e = .int .i64 0) (fun _ _ => 0)
      case atStart => exact ⟨rfl, rfl⟩
      case round =>
        obtain ⟨rfl, rfl⟩ := hrel
        go_wp2
        go_loop [4, 5] (fun v e => ∃ k : Nat, k ≤ 1022 ∧ v = .float .f64 (HFloat.dbls k x) ∧ e = .int .i64 (-(k : Int))) (fun _ e => 1022 - (-(intOf e)).toNat)
        case atStart => exact ⟨0, Nat.zero_le _, rfl, rfl⟩
        case round =>
          obtain ⟨k, hk, rfl, rfl⟩ := hrel
          have hl := HFloat.dbls_lt HS.out hk
          have p1 : (HFloat.flt (HFloat.dbls k x) 4607182418800017408) = true := by rw [fb_lss (by omega), decide_eq_true hl]
          by_cases hlt : k < 1022
          · have p2 : ∀ w : World, (binOp .mul 22 (.float .f64 (HFloat.dbls k x)) (.float .f64 4611686018427387904)).run Try.prog w = .ok (.float .f64 (HFloat.dbls (k + 1) x)) w := fun w => HFloat.run_float_arith w .mul 22 .f64 _ _ _ (by have h2 := HFloat.dbls_lt HS.out (show k + 1 ≤ 1022 by omega); rw [HFloat.dbls_succ] at h2 ⊢; exact HFloat.mul_two (by omega))
            have p6 : decide ((k : Int) < 1022) = true := decide_eq_true (by omega)
            clear hl
            go_wp2
            go_round
            case rel => exact ⟨k + 1, by omega, rfl, by go_num⟩
            case measure => simp [intOf]; omega
          · obtain rfl : k = 1022 := by omega
            have p4 : ∀ w : World, (binOp .mul 22 (.float .f64 (HFloat.dbls 1022 x)) (.float .f64 4841369599423283200)).run Try.prog w = .ok (.float .f64 (HFloat.whole x)) w := fun w => HFloat.run_float_arith w .mul 22 .f64 _ _ _ (HFloat.mul_big HS.out)
            have p5 : ∀ w : World, (convert 22 144 (.float .f64 (HFloat.whole x))).run Try.prog w = .ok (.int .u64 x) w := fun w => HFloat.run_convert_float_int w 22 144 .f64 .u64 _ _ (by kernel_rfl) Try.underlying144 (HFloat.floor_whole HS.out)
            clear hl
            go_wp2
            go_ret
            refine ⟨?_, 0, rfl⟩
            have hs := HS.out
            have e' : Go.bits .or .u64 (0 : Int) (x : Int) = ((x : Nat) : Int) := (fb_or (s := 0) (f := x) (Or.inl rfl) (by omega)).trans (congrArg (fun z : Nat => (z : Int)) (by omega))
            exact congrArg (fun z : Int => Ending.returned (Value.int .u64 z)) e'
  · obtain ⟨x, rfl⟩ : ∃ x : Nat, a0 = 9223372036854775808 + x := ⟨a0 - 9223372036854775808, by omega⟩
    rw [if_neg hs] at qz
    have q2 : (HFloat.flt (9223372036854775808 + x) 0) = true := by rw [HFloat.flt_eq, show FloatKind.f64.format.order (9223372036854775808 + x) 0 = _ from qz]; rfl
    have h0x : (9223372036854775808 + x) % 9223372036854775808 = x := by omega
    rw [h0x] at hM hz hN
    clear h0x; have h0x : 0 < x := by omega
    have q3 : (HFloat.feq x 0) = false := fb_zero hM h0x
    have q6 : Op.negFloat .f64 (9223372036854775808 + x) = x := HFloat.neg_pos (by omega)
    clear qz qc hlt hN hz
    by_cases hI : x = 9218868437227405312
    · subst hI
      have q8 : (HFloat.fgt 9218868437227405312 9218868437227405311) = true := by rw [HFloat.fgt_eq, show FloatKind.f64.format.order 9218868437227405312 9218868437227405311 = _ from HFloat.order_inf (by omega)]; rfl
      go_enter Try.func120, Try.ntmps120
      go_wp2
      go_ret
      exact ⟨by rfl, 0, rfl⟩
    have hx : x < 9218868437227405312 := by omega
    have q8 : (HFloat.fgt x 9218868437227405311) = false := fb_max hx
    have HX := Aside0.mk hx
    by_cases hA : 4607182418800017408 ≤ x
    · -- at least one
      obtain ⟨n, f, hn, hf, he⟩ : ∃ n f : Nat, n < 1024 ∧ f < 4503599627370496 ∧ x = 4607182418800017408 + n * 4503599627370496 + f := ⟨x / 4503599627370496 - 1023, x % 4503599627370496, by omega, Nat.mod_lt _ (by omega), by omega⟩
      have HN := Aside0.mk hn
      have HF := Aside0.mk hf
      have HE := Aside0.mk he
      clear hn hf hx hA hI h0x he
      go_enter Try.func120, Try.ntmps120
      go_wp2
      go_loop [4, 5] (fun v e => ∃ k y : Nat, k ≤ n ∧ Aside0 (y + k * 4503599627370496 = x) ∧ v = .float .f64 y ∧ e = .int .i64 k) (fun _ e => n - (intOf e).toNat)
      case atStart => exact ⟨0, x, Nat.zero_le _, ⟨by simp⟩, rfl, rfl⟩
      case round =>
        obtain ⟨k, y, hk, HY, rfl, rfl⟩ := hrel
        have hn := HN.out; have hf := HF.out; have hx := HX.out; have hy := HY.out; have he := HE.out
        by_cases hlt : k < n
        · have p1 : (HFloat.fgt y 4611686018427387904 || HFloat.feq y 4611686018427387904) = true := by rw [fb_geq (by omega), decide_eq_true (by omega)]
          obtain ⟨z, hz⟩ : ∃ z, z = y - 4503599627370496 := ⟨_, rfl⟩
          have HZ := Aside0.mk (show z + (k + 1) * 4503599627370496 = x by omega)
          have p2 : ∀ w : World, (binOp .quo 22 (.float .f64 y) (.float .f64 4611686018427387904)).run Try.prog w = .ok (.float .f64 z) w := fun w => HFloat.run_float_arith w .quo 22 .f64 _ _ _ (by rw [hz]; exact HFloat.div_two (by omega) (by omega))
          clear hf hx hy he hz
          go_wp2
          go_round
          case rel => exact ⟨k + 1, z, by omega, HZ, rfl, by go_num⟩
          case measure => simp [intOf]; omega
        · obtain rfl : k = n := by omega
          have hy2 : y = 4607182418800017408 + f := by omega
          have p1 : (HFloat.fgt y 4611686018427387904 || HFloat.feq y 4611686018427387904) = false := by rw [fb_geq (by omega), decide_eq_false (by omega)]
          have p2 : (HFloat.flt y 4607182418800017408) = false := by rw [fb_lss (by omega), decide_eq_false (by omega)]
          have p3 : ∀ w : World, (binOp .sub 22 (.float .f64 y) (.float .f64 4607182418800017408)).run Try.prog w = .ok (.float .f64 (HFloat.dbls 1022 f)) w := fun w => HFloat.run_float_arith w .sub 22 .f64 _ _ _ (by rw [hy2]; exact HFloat.sub_one hf)
          have p4 : ∀ w : World, (binOp .mul 22 (.float .f64 (HFloat.dbls 1022 f)) (.float .f64 4841369599423283200)).run Try.prog w = .ok (.float .f64 (HFloat.whole f)) w := fun w => HFloat.run_float_arith w .mul 22 .f64 _ _ _ (HFloat.mul_big hf)
          have p5 : ∀ w : World, (convert 22 144 (.float .f64 (HFloat.whole f))).run Try.prog w = .ok (.int .u64 f) w := fun w => HFloat.run_convert_float_int w 22 144 .f64 .u64 _ _ (by kernel_rfl) Try.underlying144 (HFloat.floor_whole hf)
          clear hn hf hx hy he hy2
          go_wp2
          go_loop [4, 5] (fun v e => v = .float .f64 y ∧ e = .int .i64 k) (fun _ _ => 0)
          case atStart => exact ⟨rfl, rfl⟩
          case round =>
            obtain ⟨rfl, rfl⟩ := hrel
            go_wp2
            go_ret
            have hn := HN.out; have hf := HF.out; have hx := HX.out; have he := HE.out
            refine ⟨?_, 0, rfl⟩
            have w1 : IntKind.u64.wrap (IntKind.u64.wrap (wrap64 ((k : Int) + 1023)) * 4503599627370496) = (((k + 1023) * 4503599627370496 : Nat) : Int) := by
              rw [IntKind.wrap_u64, IntKind.wrap_u64]
              unfold wrap64
              omega
            have e' : Go.bits .or .u64 (Go.bits .or .u64 (9223372036854775808 : Int) (IntKind.u64.wrap (IntKind.u64.wrap (wrap64 ((k : Int) + 1023)) * 4503599627370496))) (f : Int) = ((9223372036854775808 + x : Nat) : Int) := by
              rw [w1]
              exact (fb_or2 (s := 9223372036854775808) (e := k + 1023) (f := f) (Or.inr rfl) (by omega) hf).trans (congrArg (fun z : Nat => (z : Int)) (by omega))
            exact congrArg (fun z : Int => Ending.returned (Value.int .u64 z)) e'
    by_cases hB : 4503599627370496 ≤ x
    · -- below one
      obtain ⟨n, f, hn, hn2, hf, he⟩ : ∃ n f : Nat, n < 1023 ∧ 0 < n ∧ f < 4503599627370496 ∧ x + n * 4503599627370496 = 4607182418800017408 + f := ⟨1023 - x / 4503599627370496, x % 4503599627370496, by omega, by omega, Nat.mod_lt _ (by omega), by omega⟩
      have HN := Aside0.mk hn
      have HN2 := Aside0.mk hn2
      have HF := Aside0.mk hf
      have HE := Aside0.mk he
      have HB := Aside0.mk hB
      have p1 : (HFloat.fgt x 4611686018427387904 || HFloat.feq x 4611686018427387904) = false := by rw [fb_geq (by omega), decide_eq_false (by omega)]
      clear hn hn2 hf hx hA hI h0x hB he
      go_enter Try.func120, Try.ntmps120
      go_wp2
      go_loop [4, 5] (fun v e => v = .float .f64 x ∧ e = .int .i64 0) (fun _ _ => 0)
      case atStart => exact ⟨rfl, rfl⟩
      case round =>
        obtain ⟨rfl, rfl⟩ := hrel
        go_wp2
        go_loop [4, 5] (fun v e => ∃ k y : Nat, k ≤ n ∧ Aside0 (x + k * 4503599627370496 = y) ∧ v = .float .f64 y ∧ e = .int .i64 (-(k : Int))) (fun _ e => n - (-(intOf e)).toNat)
        case atStart => exact ⟨0, x, Nat.zero_le _, ⟨by simp⟩, rfl, rfl⟩
        case round =>
          obtain ⟨k, y, hk, HY, rfl, rfl⟩ := hrel
          have hn := HN.out; have hf := HF.out; have hx := HX.out; have hy := HY.out; have he := HE.out; have hB := HB.out
          by_cases hlt : k < n
          · have p2 : (HFloat.flt y 4607182418800017408) = true := by rw [fb_lss (by omega), decide_eq_true (by omega)]
            obtain ⟨z, hz⟩ : ∃ z, z = y + 4503599627370496 := ⟨_, rfl⟩
            have HZ := Aside0.mk (show x + (k + 1) * 4503599627370496 = z by rw [hz, ← hy, Nat.add_mul, Nat.one_mul, Nat.add_assoc])
            have hd : HFloat.dbl y = z := by unfold HFloat.dbl; rw [if_neg (by omega)]; exact hz.symm
            have p3 : ∀ w : World, (binOp .mul 22 (.float .f64 y) (.float .f64 4611686018427387904)).run Try.prog w = .ok (.float .f64 z) w := fun w => HFloat.run_float_arith w .mul 22 .f64 _ _ _ (by rw [← hd]; exact HFloat.mul_two (by omega))
            have p6 : decide ((k : Int) < 1022) = true := decide_eq_true (by omega)
            clear hf hx hy he hB hz hd
            go_wp2
            go_round
            case rel => exact ⟨k + 1, z, by omega, HZ, rfl, by go_num⟩
            case measure => simp [intOf]; omega
          · obtain rfl : k = n := by omega
            have hy2 : y = 4607182418800017408 + f := by omega
            have p2 : (HFloat.flt y 4607182418800017408) = false := by rw [fb_lss (by omega), decide_eq_false (by omega)]
            have p3 : ∀ w : World, (binOp .sub 22 (.float .f64 y) (.float .f64 4607182418800017408)).run Try.prog w = .ok (.float .f64 (HFloat.dbls 1022 f)) w := fun w => HFloat.run_float_arith w .sub 22 .f64 _ _ _ (by rw [hy2]; exact HFloat.sub_one hf)
            have p4 : ∀ w : World, (binOp .mul 22 (.float .f64 (HFloat.dbls 1022 f)) (.float .f64 4841369599423283200)).run Try.prog w = .ok (.float .f64 (HFloat.whole f)) w := fun w => HFloat.run_float_arith w .mul 22 .f64 _ _ _ (HFloat.mul_big hf)
            have p5 : ∀ w : World, (convert 22 144 (.float .f64 (HFloat.whole f))).run Try.prog w = .ok (.int .u64 f) w := fun w => HFloat.run_convert_float_int w 22 144 .f64 .u64 _ _ (by kernel_rfl) Try.underlying144 (HFloat.floor_whole hf)
            clear hn hf hx hy he hB hy2
            go_wp2
            go_ret
            have hn := HN.out; have hf := HF.out; have hx := HX.out; have he := HE.out; have hB := HB.out
            refine ⟨?_, 0, rfl⟩
            have w1 : IntKind.u64.wrap (IntKind.u64.wrap (wrap64 (-(k : Int) + 1023)) * 4503599627370496) = (((1023 - k) * 4503599627370496 : Nat) : Int) := by
              rw [IntKind.wrap_u64, IntKind.wrap_u64]
              unfold wrap64
              omega
            have e' : Go.bits .or .u64 (Go.bits .or .u64 (9223372036854775808 : Int) (IntKind.u64.wrap (IntKind.u64.wrap (wrap64 (-(k : Int) + 1023)) * 4503599627370496))) (f : Int) = ((9223372036854775808 + x : Nat) : Int) := by
              rw [w1]
              exact (fb_or2 (s := 9223372036854775808) (e := 1023 - k) (f := f) (Or.inr rfl) (by omega) hf).trans (congrArg (fun z : Nat => (z : Int)) (by omega))
            exact congrArg (fun z : Int => Ending.returned (Value.int .u64 z)) e'
    · -- less than the least normal one
      have p1 : (HFloat.fgt x 4611686018427387904 || HFloat.feq x 4611686018427387904) = false := by rw [fb_geq (by omega), decide_eq_false (by omega)]
      have HS := Aside0.mk (show x < 4503599627370496 by omega)
      clear hx hA hI h0x
      go_enter Try.func120, Try.ntmps120
      go_wp2
      go_loop [4, 5] (fun v e => v = .float .f64 x ∧ e = .int .i64 0) (fun _ _ => 0)
      case atStart => exact ⟨rfl, rfl⟩
      case round =>
        obtain ⟨rfl, rfl⟩ := hrel
        go_wp2
        go_loop [4, 5] (fun v e => ∃ k : Nat, k ≤ 1022 ∧ v = .float .f64 (HFloat.dbls k x) ∧ e = .int .i64 (-(k : Int))) (fun _ e => 1022 - (-(intOf e)).toNat)
        case atStart => exact ⟨0, Nat.zero_le _, rfl, rfl⟩
        case round =>
          obtain ⟨k, hk, rfl, rfl⟩ := hrel
          have hl := HFloat.dbls_lt HS.out hk
          have p1 : (HFloat.flt (HFloat.dbls k x) 4607182418800017408) = true := by rw [fb_lss (by omega), decide_eq_true hl]
          by_cases hlt : k < 1022
          · have p2 : ∀ w : World, (binOp .mul 22 (.float .f64 (HFloat.dbls k x)) (.float .f64 4611686018427387904)).run Try.prog w = .ok (.float .f64 (HFloat.dbls (k + 1) x)) w := fun w => HFloat.run_float_arith w .mul 22 .f64 _ _ _ (by have h2 := HFloat.dbls_lt HS.out (show k + 1 ≤ 1022 by omega); rw [HFloat.dbls_succ] at h2 ⊢; exact HFloat.mul_two (by omega))
            have p6 : decide ((k : Int) < 1022) = true := decide_eq_true (by omega)
            clear hl
            go_wp2
            go_round
            case rel => exact ⟨k + 1, by omega, rfl, by go_num⟩
            case measure => simp [intOf]; omega
          · obtain rfl : k = 1022 := by omega
            have p4 : ∀ w : World, (binOp .mul 22 (.float .f64 (HFloat.dbls 1022 x)) (.float .f64 4841369599423283200)).run Try.prog w = .ok (.float .f64 (HFloat.whole x)) w := fun w => HFloat.run_float_arith w .mul 22 .f64 _ _ _ (HFloat.mul_big HS.out)
            have p5 : ∀ w : World, (convert 22 144 (.float .f64 (HFloat.whole x))).run Try.prog w = .ok (.int .u64 x) w := fun w => HFloat.run_convert_float_int w 22 144 .f64 .u64 _ _ (by kernel_rfl) Try.underlying144 (HFloat.floor_whole HS.out)
            clear hl
            go_wp2
            go_ret
            refine ⟨?_, 0, rfl⟩
            have hs := HS.out
            have e' : Go.bits .or .u64 (9223372036854775808 : Int) (x : Int) = ((9223372036854775808 + x : Nat) : Int) := (fb_or (s := 9223372036854775808) (f := x) (Or.inr rfl) (by omega)).trans (congrArg (fun z : Nat => (z : Int)) (by omega))
            exact congrArg (fun z : Int => Ending.returned (Value.int .u64 z)) e'

end Go.Proofs.Ytjmlbkhcjgehdaa.PFnExactOpOk
