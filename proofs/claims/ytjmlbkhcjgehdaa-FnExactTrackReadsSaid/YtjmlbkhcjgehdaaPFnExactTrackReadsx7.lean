-- Written by hv.py, a program of this session's own, over the kit's print: FnExactTrackReads
import Derived.Test.YtjmlbkhcjgehdaaPFnExactTrackReadsx0
import Derived.Test.YtjmlbkhcjgehdaaPFnExactTrackReadsx1
import Derived.Test.YtjmlbkhcjgehdaaPFnExactTrackReadsx5
import Derived.Test.YtjmlbkhcjgehdaaPFnExactTrackReadsx6
namespace Go.Proofs.Ytjmlbkhcjgehdaa.PFnExactTrackReads
open Go.RowKit Go.Proofs.YtjmlbkhcjgehdaaW.PrintWords Go.Proofs.YtjmlbkhcjgehdaaW.PrintLast Go.Proofs.YtjmlbkhcjgehdaaW.PrintMore Go.Proofs.Ytjmlbkhcjgehdaa.HFl Go.Proofs.Ytjmlbkhcjgehdaa.HMap Go.Proofs.Ytjmlbkhcjgehdaa.HMore Go.Proofs.Ytjmlbkhcjgehdaa
attribute [local go_sem] max2_int min2_int max_two min_two max_three min_three max_four min_four   -- for this text's walks alone
set_option linter.unusedVariables false
set_option linter.unusedSimpArgs false

/-! ### impl_TrackReads: function 33, by hand -/
set_option maxHeartbeats 4000000 in
set_option maxRecDepth 100000 in
theorem impl_TrackReads_1.calls (k : Nat) (a0_0 : Int) (a0_1 : Int) (a0_2 : Nat) (A0_3 : Option Addr) (c0_3 : Nat) (l0_3 : List Int) (a0_4 : Int) (a0_5 : Int) (a0_6 : Nat) (A0_7 : Option Addr) (c0_7 : Nat) (l0_7 : List Int) (a1_0 : Int) (a1_1 : Int) (a1_2 : Nat) (A1_3 : Option Addr) (c1_3 : Nat) (l1_3 : List Int) (g : Nat) (t : Bool) (w : World) (hr0_3 : Kd.C (Kd.int .u8) w A0_3 l0_3.length l0_3) (hc0_3 : l0_3.length ≤ c0_3) (hr0_7 : Kd.C (Kd.int .u8) w A0_7 l0_7.length l0_7) (hc0_7 : l0_7.length ≤ c0_7) (hr1_3 : Kd.C (Kd.int .u8) w A1_3 l1_3.length l1_3) (hc1_3 : l1_3.length ≤ c1_3) (hbk : w.heap[g]? = some (.cells #[.int .i64 a1_0, .int .i64 a1_1, .float .f64 a1_2, .slice A1_3 l1_3.length c1_3] 27 (0, 0))) (h : impl_Span_has.f k a0_0 a0_1 a0_2 l0_3 a0_4 a0_5 a0_6 l0_7 a1_0 a1_1 a1_2 l1_3 = some t) :
    Calls Try.prog 87 #[.agg #[.int .i64 a0_0, .int .i64 a0_1, .float .f64 a0_2, .slice A0_3 l0_3.length c0_3, .int .i64 a0_4, .int .i64 a0_5, .float .f64 a0_6, .slice A0_7 l0_7.length c0_7], .pointer (some ⟨g, 0, none⟩)] w fun e w' => e = .returned (.bool t) ∧ Below w.heap.size w w' := by
  have hu1 := Try.underlying27
  have hu2 := Try.underlying38
  have HR0_3 := Aside0.mk hr0_3
  have HC0_3 := Aside0.mk hc0_3
  clear hr0_3 hc0_3
  have HR0_7 := Aside0.mk hr0_7
  have HC0_7 := Aside0.mk hc0_7
  clear hr0_7 hc0_7
  have HR1_3 := Aside0.mk hr1_3
  have HC1_3 := Aside0.mk hc1_3
  clear hr1_3 hc1_3
  have BKK := Aside0.mk hbk
  have A2 := Aside0.mk h
  have HB := Aside0.mk (Below.refl w.heap.size w)
  clear hbk h
  go_enter Try.func87, Try.ntmps87
  go_wp2_with (first | ((with_reducible refine gate_dst (N := 2) rfl ?_); refine box_event ?hg (N := 2) ?hd (cs := #[.int .i64 a0_0, .int .i64 a0_1, .float .f64 a0_2, .slice A0_3 l0_3.length c0_3, .int .i64 a0_4, .int .i64 a0_5, .float .f64 a0_6, .slice A0_7 l0_7.length c0_7]) (t := 38) ?hr ?_; (case hd => rfl); (case hg => rfl); (case hr => first | (go_simp; done) | (go_simp; rfl)); intro gb0 hg w5 hbox hb; have BX0 := Aside0.mk hbox; have mk_ := Aside0.mk (blk_below (g := g) (o := .cells #[.int .i64 a1_0, .int .i64 a1_1, .float .f64 a1_2, .slice A1_3 l1_3.length c1_3] 27 (0, 0)) BKK.out hb); clear BKK; have BKK := mk_; clear mk_; have hk_0 : w5.cell? ⟨g, 0, none⟩ = some (.int .i64 a1_0) := (blk_cell BKK.out 0).trans rfl; have hkf_0 := blk_frozen BKK.out 0; have hk_1 : w5.cell? ⟨g, 1, none⟩ = some (.int .i64 a1_1) := (blk_cell BKK.out 1).trans rfl; have hkf_1 := blk_frozen BKK.out 1; have hk_2 : w5.cell? ⟨g, 2, none⟩ = some (.float .f64 a1_2) := (blk_cell BKK.out 2).trans rfl; have hkf_2 := blk_frozen BKK.out 2; have hk_3 : w5.cell? ⟨g, 3, none⟩ = some (.slice A1_3 l1_3.length c1_3) := (blk_cell BKK.out 3).trans rfl; have hkf_3 := blk_frozen BKK.out 3; have hx_0 : w5.cell? ⟨gb0, 0, none⟩ = some (.int .i64 a0_0) := (blk_cell BX0.out 0).trans rfl; have hxf_0 := blk_frozen BX0.out 0; have hx_1 : w5.cell? ⟨gb0, 1, none⟩ = some (.int .i64 a0_1) := (blk_cell BX0.out 1).trans rfl; have hxf_1 := blk_frozen BX0.out 1; have hx_2 : w5.cell? ⟨gb0, 2, none⟩ = some (.float .f64 a0_2) := (blk_cell BX0.out 2).trans rfl; have hxf_2 := blk_frozen BX0.out 2; have hx_3 : w5.cell? ⟨gb0, 3, none⟩ = some (.slice A0_3 l0_3.length c0_3) := (blk_cell BX0.out 3).trans rfl; have hxf_3 := blk_frozen BX0.out 3; have hx_4 : w5.cell? ⟨gb0, 4, none⟩ = some (.int .i64 a0_4) := (blk_cell BX0.out 4).trans rfl; have hxf_4 := blk_frozen BX0.out 4; have hx_5 : w5.cell? ⟨gb0, 5, none⟩ = some (.int .i64 a0_5) := (blk_cell BX0.out 5).trans rfl; have hxf_5 := blk_frozen BX0.out 5; have hx_6 : w5.cell? ⟨gb0, 6, none⟩ = some (.float .f64 a0_6) := (blk_cell BX0.out 6).trans rfl; have hxf_6 := blk_frozen BX0.out 6; have hx_7 : w5.cell? ⟨gb0, 7, none⟩ = some (.slice A0_7 l0_7.length c0_7) := (blk_cell BX0.out 7).trans rfl; have hxf_7 := blk_frozen BX0.out 7; have n0_ := Aside0.mk (below_step HB.out hb); clear HB; have HB := n0_; clear n0_ hbox hg hb) | (go_at_call 88; refine (impl_Span_has.calls k a0_0 a0_1 a0_2 A0_3 c0_3 l0_3 a0_4 a0_5 a0_6 A0_7 c0_7 l0_7 a1_0 a1_1 a1_2 A1_3 c1_3 l1_3 t _ (Kd.C_below HR0_3.out HB.out) HC0_3.out (Kd.C_below HR0_7.out HB.out) HC0_7.out (Kd.C_below HR1_3.out HB.out) HC1_3.out A2.out).mono ?_; rintro e w' ⟨rfl, hb⟩; have n0_ := Aside0.mk (below_step HB.out hb); clear HB; have HB := n0_; clear n0_ hb))
  go_ret
  exact ⟨by first | rfl | simp, HB.out⟩
theorem goes_impl_TrackReads_1 : ∀ args w, (callFunc 87 args).run Try.prog w = .ok (.enter 87 args) w := fun args w => by kernel_rfl
def impl_TrackReads.f (k : Nat) (a0_0 : Int) (a0_1 : Int) (a0_2 : Int) (a0_3 : Bool) (l0_4 : List S38) (l0_5 : List S27) (a0_6 : Bool) (a0_7 : Bool) (a1_0 : Int) (a1_1 : Int) (a1_2 : Nat) (l1_3 : List Int) : Option Bool := (impl_KeyOk.f a1_0 a1_1 a1_2 l1_3).bind fun b => if b = true then (if a0_3 = true then some true else anyO (fun x => impl_Span_has.f k x.f0.f0 x.f0.f1 x.f0.f2 x.f0.f3 x.f1.f0 x.f1.f1 x.f1.f2 x.f1.f3 a1_0 a1_1 a1_2 l1_3) l0_4) else some false
theorem impl_TrackReads.mono : ∀ a0 a1 a2 a3 a4 a5 a6 a7 a8 a9 a10 a11 k, LeO (impl_TrackReads.f k a0 a1 a2 a3 a4 a5 a6 a7 a8 a9 a10 a11) (impl_TrackReads.f (k + 1) a0 a1 a2 a3 a4 a5 a6 a7 a8 a9 a10 a11) := by
  intro a0 a1 a2 a3 a4 a5 a6 a7 a8 a9 a10 a11 k
  unfold impl_TrackReads.f
  refine LeO.bind (LeO.refl _) (fun _ => ?_)
  refine LeO.ite (LeO.ite (LeO.refl _) ?_) (LeO.refl _)
  exact anyO_LeO (fun x => impl_Span_has.mono _ _ _ _ _ _ _ _ _ _ _ _ k) _
set_option maxHeartbeats 4000000 in
set_option maxRecDepth 100000 in
theorem impl_TrackReads.calls (k : Nat) (a0_0 : Int) (a0_1 : Int) (a0_2 : Int) (a0_3 : Bool) (A0_4 : Option Addr) (c0_4 : Nat) (l0_4 : List S38) (A0_5 : Option Addr) (c0_5 : Nat) (l0_5 : List S27) (a0_6 : Bool) (a0_7 : Bool) (a1_0 : Int) (a1_1 : Int) (a1_2 : Nat) (A1_3 : Option Addr) (c1_3 : Nat) (l1_3 : List Int) (r : Bool) (w : World) (hr0_4 : Kd.C k38 w A0_4 l0_4.length l0_4) (hc0_4 : l0_4.length ≤ c0_4) (hr0_5 : Kd.C k27 w A0_5 l0_5.length l0_5) (hc0_5 : l0_5.length ≤ c0_5) (hr1_3 : Kd.C (Kd.int .u8) w A1_3 l1_3.length l1_3) (hc1_3 : l1_3.length ≤ c1_3) (h : impl_TrackReads.f k a0_0 a0_1 a0_2 a0_3 l0_4 l0_5 a0_6 a0_7 a1_0 a1_1 a1_2 l1_3 = some r) :
    Calls Try.prog 33 #[.agg #[.int .i64 a0_0, .int .i64 a0_1, .int .i64 a0_2, .bool a0_3, .slice A0_4 l0_4.length c0_4, .slice A0_5 l0_5.length c0_5, .bool a0_6, .bool a0_7], .agg #[.int .i64 a1_0, .int .i64 a1_1, .float .f64 a1_2, .slice A1_3 l1_3.length c1_3]] w fun e w' => e = .returned (.bool r) ∧ Below w.heap.size w w' := by
  have hu1 := Try.underlying27
  have hu2 := Try.underlying61
  have HR0_4 := Aside0.mk hr0_4
  have HC0_4 := Aside0.mk hc0_4
  clear hr0_4 hc0_4
  have HR0_5 := Aside0.mk hr0_5
  have HC0_5 := Aside0.mk hc0_5
  clear hr0_5 hc0_5
  have HR1_3 := Aside0.mk hr1_3
  have HC1_3 := Aside0.mk hc1_3
  clear hr1_3 hc1_3
  have HB := Aside0.mk (Below.refl w.heap.size w)
  unfold impl_TrackReads.f at h
  obtain ⟨tb, hk0, h⟩ := Option.bind_eq_some_iff.1 h
  have AK := Aside0.mk hk0
  clear hk0
  cases tb with
  | false =>
    rw [if_neg (by decide)] at h
    obtain rfl := Option.some.inj h
    clear h
    go_enter Try.func33, Try.ntmps33
    go_wp2_with (first | ((with_reducible refine gate_dst (N := 2) rfl ?_); refine box_event ?hg (N := 2) ?hd (cs := #[.int .i64 a0_0, .int .i64 a0_1, .int .i64 a0_2, .bool a0_3, .slice A0_4 l0_4.length c0_4, .slice A0_5 l0_5.length c0_5, .bool a0_6, .bool a0_7]) (t := 61) ?hr ?_; (case hd => rfl); (case hg => rfl); (case hr => first | (go_simp; done) | (go_simp; rfl)); intro gb0 hg w5 hbox hb; have BX0 := Aside0.mk hbox; have n0_ := Aside0.mk (below_step HB.out hb); clear HB; have HB := n0_; clear n0_ hbox hg hb) | ((with_reducible refine gate_dst (N := 3) rfl ?_); refine box_event ?hg (N := 3) ?hd (cs := #[.int .i64 a1_0, .int .i64 a1_1, .float .f64 a1_2, .slice A1_3 l1_3.length c1_3]) (t := 27) ?hr ?_; (case hd => rfl); (case hg => rfl); (case hr => first | (go_simp; done) | (go_simp; rfl)); intro gb1 hg w6 hbox hb; have BX1 := Aside0.mk hbox; have ms0_ := Aside0.mk (blk_below (g := gb0) (o := .cells #[.int .i64 a0_0, .int .i64 a0_1, .int .i64 a0_2, .bool a0_3, .slice A0_4 l0_4.length c0_4, .slice A0_5 l0_5.length c0_5, .bool a0_6, .bool a0_7] 61 (0, 0)) BX0.out hb); clear BX0; have BX0 := ms0_; clear ms0_; have hx0_0 : w6.cell? ⟨gb0, 0, none⟩ = some (.int .i64 a0_0) := (blk_cell BX0.out 0).trans rfl; have hxf0_0 := blk_frozen BX0.out 0; have hx0_1 : w6.cell? ⟨gb0, 1, none⟩ = some (.int .i64 a0_1) := (blk_cell BX0.out 1).trans rfl; have hxf0_1 := blk_frozen BX0.out 1; have hx0_2 : w6.cell? ⟨gb0, 2, none⟩ = some (.int .i64 a0_2) := (blk_cell BX0.out 2).trans rfl; have hxf0_2 := blk_frozen BX0.out 2; have hx0_3 : w6.cell? ⟨gb0, 3, none⟩ = some (.bool a0_3) := (blk_cell BX0.out 3).trans rfl; have hxf0_3 := blk_frozen BX0.out 3; have hx0_4 : w6.cell? ⟨gb0, 4, none⟩ = some (.slice A0_4 l0_4.length c0_4) := (blk_cell BX0.out 4).trans rfl; have hxf0_4 := blk_frozen BX0.out 4; have hx0_5 : w6.cell? ⟨gb0, 5, none⟩ = some (.slice A0_5 l0_5.length c0_5) := (blk_cell BX0.out 5).trans rfl; have hxf0_5 := blk_frozen BX0.out 5; have hx0_6 : w6.cell? ⟨gb0, 6, none⟩ = some (.bool a0_6) := (blk_cell BX0.out 6).trans rfl; have hxf0_6 := blk_frozen BX0.out 6; have hx0_7 : w6.cell? ⟨gb0, 7, none⟩ = some (.bool a0_7) := (blk_cell BX0.out 7).trans rfl; have hxf0_7 := blk_frozen BX0.out 7; have hx1_0 : w6.cell? ⟨gb1, 0, none⟩ = some (.int .i64 a1_0) := (blk_cell BX1.out 0).trans rfl; have hxf1_0 := blk_frozen BX1.out 0; have hx1_1 : w6.cell? ⟨gb1, 1, none⟩ = some (.int .i64 a1_1) := (blk_cell BX1.out 1).trans rfl; have hxf1_1 := blk_frozen BX1.out 1; have hx1_2 : w6.cell? ⟨gb1, 2, none⟩ = some (.float .f64 a1_2) := (blk_cell BX1.out 2).trans rfl; have hxf1_2 := blk_frozen BX1.out 2; have hx1_3 : w6.cell? ⟨gb1, 3, none⟩ = some (.slice A1_3 l1_3.length c1_3) := (blk_cell BX1.out 3).trans rfl; have hxf1_3 := blk_frozen BX1.out 3; have n0_ := Aside0.mk (below_step HB.out hb); clear HB; have HB := n0_; clear n0_ hbox hg hb) | (go_at_call 72; refine (impl_KeyOk.calls a1_0 a1_1 a1_2 A1_3 c1_3 l1_3 _ _ (Kd.C_below HR1_3.out HB.out) HC1_3.out AK.out).mono ?_; rintro e w' ⟨rfl, hb⟩; have ma_ := Aside0.mk (blk_below (g := gb0) (o := .cells #[.int .i64 a0_0, .int .i64 a0_1, .int .i64 a0_2, .bool a0_3, .slice A0_4 l0_4.length c0_4, .slice A0_5 l0_5.length c0_5, .bool a0_6, .bool a0_7] 61 (0, 0)) BX0.out hb); have mb_ := Aside0.mk (blk_below (g := gb1) (o := .cells #[.int .i64 a1_0, .int .i64 a1_1, .float .f64 a1_2, .slice A1_3 l1_3.length c1_3] 27 (0, 0)) BX1.out hb); clear BX0 BX1; have BX0 := ma_; have BX1 := mb_; clear ma_ mb_; have hy0_0 : w'.cell? ⟨gb0, 0, none⟩ = some (.int .i64 a0_0) := (blk_cell BX0.out 0).trans rfl; have hyf0_0 := blk_frozen BX0.out 0; have hy0_1 : w'.cell? ⟨gb0, 1, none⟩ = some (.int .i64 a0_1) := (blk_cell BX0.out 1).trans rfl; have hyf0_1 := blk_frozen BX0.out 1; have hy0_2 : w'.cell? ⟨gb0, 2, none⟩ = some (.int .i64 a0_2) := (blk_cell BX0.out 2).trans rfl; have hyf0_2 := blk_frozen BX0.out 2; have hy0_3 : w'.cell? ⟨gb0, 3, none⟩ = some (.bool a0_3) := (blk_cell BX0.out 3).trans rfl; have hyf0_3 := blk_frozen BX0.out 3; have hy0_4 : w'.cell? ⟨gb0, 4, none⟩ = some (.slice A0_4 l0_4.length c0_4) := (blk_cell BX0.out 4).trans rfl; have hyf0_4 := blk_frozen BX0.out 4; have hy0_5 : w'.cell? ⟨gb0, 5, none⟩ = some (.slice A0_5 l0_5.length c0_5) := (blk_cell BX0.out 5).trans rfl; have hyf0_5 := blk_frozen BX0.out 5; have hy0_6 : w'.cell? ⟨gb0, 6, none⟩ = some (.bool a0_6) := (blk_cell BX0.out 6).trans rfl; have hyf0_6 := blk_frozen BX0.out 6; have hy0_7 : w'.cell? ⟨gb0, 7, none⟩ = some (.bool a0_7) := (blk_cell BX0.out 7).trans rfl; have hyf0_7 := blk_frozen BX0.out 7; have hy1_0 : w'.cell? ⟨gb1, 0, none⟩ = some (.int .i64 a1_0) := (blk_cell BX1.out 0).trans rfl; have hyf1_0 := blk_frozen BX1.out 0; have hy1_1 : w'.cell? ⟨gb1, 1, none⟩ = some (.int .i64 a1_1) := (blk_cell BX1.out 1).trans rfl; have hyf1_1 := blk_frozen BX1.out 1; have hy1_2 : w'.cell? ⟨gb1, 2, none⟩ = some (.float .f64 a1_2) := (blk_cell BX1.out 2).trans rfl; have hyf1_2 := blk_frozen BX1.out 2; have hy1_3 : w'.cell? ⟨gb1, 3, none⟩ = some (.slice A1_3 l1_3.length c1_3) := (blk_cell BX1.out 3).trans rfl; have hyf1_3 := blk_frozen BX1.out 3; have n0_ := Aside0.mk (below_step HB.out hb); clear HB; have HB := n0_; clear n0_ hb))
    go_ret
    exact ⟨by first | rfl | simp [*], HB.out⟩
  | true =>
    rw [if_pos rfl] at h
    cases a0_3 with
    | true =>
      rw [if_pos rfl] at h
      obtain rfl := Option.some.inj h
      clear h
      go_enter Try.func33, Try.ntmps33
      go_wp2_with (first | ((with_reducible refine gate_dst (N := 2) rfl ?_); refine box_event ?hg (N := 2) ?hd (cs := #[.int .i64 a0_0, .int .i64 a0_1, .int .i64 a0_2, .bool true, .slice A0_4 l0_4.length c0_4, .slice A0_5 l0_5.length c0_5, .bool a0_6, .bool a0_7]) (t := 61) ?hr ?_; (case hd => rfl); (case hg => rfl); (case hr => first | (go_simp; done) | (go_simp; rfl)); intro gb0 hg w5 hbox hb; have BX0 := Aside0.mk hbox; have n0_ := Aside0.mk (below_step HB.out hb); clear HB; have HB := n0_; clear n0_ hbox hg hb) | ((with_reducible refine gate_dst (N := 3) rfl ?_); refine box_event ?hg (N := 3) ?hd (cs := #[.int .i64 a1_0, .int .i64 a1_1, .float .f64 a1_2, .slice A1_3 l1_3.length c1_3]) (t := 27) ?hr ?_; (case hd => rfl); (case hg => rfl); (case hr => first | (go_simp; done) | (go_simp; rfl)); intro gb1 hg w6 hbox hb; have BX1 := Aside0.mk hbox; have ms0_ := Aside0.mk (blk_below (g := gb0) (o := .cells #[.int .i64 a0_0, .int .i64 a0_1, .int .i64 a0_2, .bool true, .slice A0_4 l0_4.length c0_4, .slice A0_5 l0_5.length c0_5, .bool a0_6, .bool a0_7] 61 (0, 0)) BX0.out hb); clear BX0; have BX0 := ms0_; clear ms0_; have hx0_0 : w6.cell? ⟨gb0, 0, none⟩ = some (.int .i64 a0_0) := (blk_cell BX0.out 0).trans rfl; have hxf0_0 := blk_frozen BX0.out 0; have hx0_1 : w6.cell? ⟨gb0, 1, none⟩ = some (.int .i64 a0_1) := (blk_cell BX0.out 1).trans rfl; have hxf0_1 := blk_frozen BX0.out 1; have hx0_2 : w6.cell? ⟨gb0, 2, none⟩ = some (.int .i64 a0_2) := (blk_cell BX0.out 2).trans rfl; have hxf0_2 := blk_frozen BX0.out 2; have hx0_3 : w6.cell? ⟨gb0, 3, none⟩ = some (.bool true) := (blk_cell BX0.out 3).trans rfl; have hxf0_3 := blk_frozen BX0.out 3; have hx0_4 : w6.cell? ⟨gb0, 4, none⟩ = some (.slice A0_4 l0_4.length c0_4) := (blk_cell BX0.out 4).trans rfl; have hxf0_4 := blk_frozen BX0.out 4; have hx0_5 : w6.cell? ⟨gb0, 5, none⟩ = some (.slice A0_5 l0_5.length c0_5) := (blk_cell BX0.out 5).trans rfl; have hxf0_5 := blk_frozen BX0.out 5; have hx0_6 : w6.cell? ⟨gb0, 6, none⟩ = some (.bool a0_6) := (blk_cell BX0.out 6).trans rfl; have hxf0_6 := blk_frozen BX0.out 6; have hx0_7 : w6.cell? ⟨gb0, 7, none⟩ = some (.bool a0_7) := (blk_cell BX0.out 7).trans rfl; have hxf0_7 := blk_frozen BX0.out 7; have hx1_0 : w6.cell? ⟨gb1, 0, none⟩ = some (.int .i64 a1_0) := (blk_cell BX1.out 0).trans rfl; have hxf1_0 := blk_frozen BX1.out 0; have hx1_1 : w6.cell? ⟨gb1, 1, none⟩ = some (.int .i64 a1_1) := (blk_cell BX1.out 1).trans rfl; have hxf1_1 := blk_frozen BX1.out 1; have hx1_2 : w6.cell? ⟨gb1, 2, none⟩ = some (.float .f64 a1_2) := (blk_cell BX1.out 2).trans rfl; have hxf1_2 := blk_frozen BX1.out 2; have hx1_3 : w6.cell? ⟨gb1, 3, none⟩ = some (.slice A1_3 l1_3.length c1_3) := (blk_cell BX1.out 3).trans rfl; have hxf1_3 := blk_frozen BX1.out 3; have n0_ := Aside0.mk (below_step HB.out hb); clear HB; have HB := n0_; clear n0_ hbox hg hb) | (go_at_call 72; refine (impl_KeyOk.calls a1_0 a1_1 a1_2 A1_3 c1_3 l1_3 _ _ (Kd.C_below HR1_3.out HB.out) HC1_3.out AK.out).mono ?_; rintro e w' ⟨rfl, hb⟩; have ma_ := Aside0.mk (blk_below (g := gb0) (o := .cells #[.int .i64 a0_0, .int .i64 a0_1, .int .i64 a0_2, .bool true, .slice A0_4 l0_4.length c0_4, .slice A0_5 l0_5.length c0_5, .bool a0_6, .bool a0_7] 61 (0, 0)) BX0.out hb); have mb_ := Aside0.mk (blk_below (g := gb1) (o := .cells #[.int .i64 a1_0, .int .i64 a1_1, .float .f64 a1_2, .slice A1_3 l1_3.length c1_3] 27 (0, 0)) BX1.out hb); clear BX0 BX1; have BX0 := ma_; have BX1 := mb_; clear ma_ mb_; have hy0_0 : w'.cell? ⟨gb0, 0, none⟩ = some (.int .i64 a0_0) := (blk_cell BX0.out 0).trans rfl; have hyf0_0 := blk_frozen BX0.out 0; have hy0_1 : w'.cell? ⟨gb0, 1, none⟩ = some (.int .i64 a0_1) := (blk_cell BX0.out 1).trans rfl; have hyf0_1 := blk_frozen BX0.out 1; have hy0_2 : w'.cell? ⟨gb0, 2, none⟩ = some (.int .i64 a0_2) := (blk_cell BX0.out 2).trans rfl; have hyf0_2 := blk_frozen BX0.out 2; have hy0_3 : w'.cell? ⟨gb0, 3, none⟩ = some (.bool true) := (blk_cell BX0.out 3).trans rfl; have hyf0_3 := blk_frozen BX0.out 3; have hy0_4 : w'.cell? ⟨gb0, 4, none⟩ = some (.slice A0_4 l0_4.length c0_4) := (blk_cell BX0.out 4).trans rfl; have hyf0_4 := blk_frozen BX0.out 4; have hy0_5 : w'.cell? ⟨gb0, 5, none⟩ = some (.slice A0_5 l0_5.length c0_5) := (blk_cell BX0.out 5).trans rfl; have hyf0_5 := blk_frozen BX0.out 5; have hy0_6 : w'.cell? ⟨gb0, 6, none⟩ = some (.bool a0_6) := (blk_cell BX0.out 6).trans rfl; have hyf0_6 := blk_frozen BX0.out 6; have hy0_7 : w'.cell? ⟨gb0, 7, none⟩ = some (.bool a0_7) := (blk_cell BX0.out 7).trans rfl; have hyf0_7 := blk_frozen BX0.out 7; have hy1_0 : w'.cell? ⟨gb1, 0, none⟩ = some (.int .i64 a1_0) := (blk_cell BX1.out 0).trans rfl; have hyf1_0 := blk_frozen BX1.out 0; have hy1_1 : w'.cell? ⟨gb1, 1, none⟩ = some (.int .i64 a1_1) := (blk_cell BX1.out 1).trans rfl; have hyf1_1 := blk_frozen BX1.out 1; have hy1_2 : w'.cell? ⟨gb1, 2, none⟩ = some (.float .f64 a1_2) := (blk_cell BX1.out 2).trans rfl; have hyf1_2 := blk_frozen BX1.out 2; have hy1_3 : w'.cell? ⟨gb1, 3, none⟩ = some (.slice A1_3 l1_3.length c1_3) := (blk_cell BX1.out 3).trans rfl; have hyf1_3 := blk_frozen BX1.out 3; have n0_ := Aside0.mk (below_step HB.out hb); clear HB; have HB := n0_; clear n0_ hb))
      go_ret
      exact ⟨by first | rfl | simp [*], HB.out⟩
    | false =>
      rw [if_neg (by decide)] at h
      obtain ⟨p, hp, hpr⟩ := anyO_inv h
      have HP := Aside0.mk hp
      clear hp h
      subst hpr
      go_enter Try.func33, Try.ntmps33
      go_wp2_with (first | ((with_reducible refine gate_dst (N := 2) rfl ?_); refine box_event ?hg (N := 2) ?hd (cs := #[.int .i64 a0_0, .int .i64 a0_1, .int .i64 a0_2, .bool false, .slice A0_4 l0_4.length c0_4, .slice A0_5 l0_5.length c0_5, .bool a0_6, .bool a0_7]) (t := 61) ?hr ?_; (case hd => rfl); (case hg => rfl); (case hr => first | (go_simp; done) | (go_simp; rfl)); intro gb0 hg w5 hbox hb; have BX0 := Aside0.mk hbox; have n0_ := Aside0.mk (below_step HB.out hb); clear HB; have HB := n0_; clear n0_ hbox hg hb) | ((with_reducible refine gate_dst (N := 3) rfl ?_); refine box_event ?hg (N := 3) ?hd (cs := #[.int .i64 a1_0, .int .i64 a1_1, .float .f64 a1_2, .slice A1_3 l1_3.length c1_3]) (t := 27) ?hr ?_; (case hd => rfl); (case hg => rfl); (case hr => first | (go_simp; done) | (go_simp; rfl)); intro gb1 hg w6 hbox hb; have BX1 := Aside0.mk hbox; have ms0_ := Aside0.mk (blk_below (g := gb0) (o := .cells #[.int .i64 a0_0, .int .i64 a0_1, .int .i64 a0_2, .bool false, .slice A0_4 l0_4.length c0_4, .slice A0_5 l0_5.length c0_5, .bool a0_6, .bool a0_7] 61 (0, 0)) BX0.out hb); clear BX0; have BX0 := ms0_; clear ms0_; have hx0_0 : w6.cell? ⟨gb0, 0, none⟩ = some (.int .i64 a0_0) := (blk_cell BX0.out 0).trans rfl; have hxf0_0 := blk_frozen BX0.out 0; have hx0_1 : w6.cell? ⟨gb0, 1, none⟩ = some (.int .i64 a0_1) := (blk_cell BX0.out 1).trans rfl; have hxf0_1 := blk_frozen BX0.out 1; have hx0_2 : w6.cell? ⟨gb0, 2, none⟩ = some (.int .i64 a0_2) := (blk_cell BX0.out 2).trans rfl; have hxf0_2 := blk_frozen BX0.out 2; have hx0_3 : w6.cell? ⟨gb0, 3, none⟩ = some (.bool false) := (blk_cell BX0.out 3).trans rfl; have hxf0_3 := blk_frozen BX0.out 3; have hx0_4 : w6.cell? ⟨gb0, 4, none⟩ = some (.slice A0_4 l0_4.length c0_4) := (blk_cell BX0.out 4).trans rfl; have hxf0_4 := blk_frozen BX0.out 4; have hx0_5 : w6.cell? ⟨gb0, 5, none⟩ = some (.slice A0_5 l0_5.length c0_5) := (blk_cell BX0.out 5).trans rfl; have hxf0_5 := blk_frozen BX0.out 5; have hx0_6 : w6.cell? ⟨gb0, 6, none⟩ = some (.bool a0_6) := (blk_cell BX0.out 6).trans rfl; have hxf0_6 := blk_frozen BX0.out 6; have hx0_7 : w6.cell? ⟨gb0, 7, none⟩ = some (.bool a0_7) := (blk_cell BX0.out 7).trans rfl; have hxf0_7 := blk_frozen BX0.out 7; have hx1_0 : w6.cell? ⟨gb1, 0, none⟩ = some (.int .i64 a1_0) := (blk_cell BX1.out 0).trans rfl; have hxf1_0 := blk_frozen BX1.out 0; have hx1_1 : w6.cell? ⟨gb1, 1, none⟩ = some (.int .i64 a1_1) := (blk_cell BX1.out 1).trans rfl; have hxf1_1 := blk_frozen BX1.out 1; have hx1_2 : w6.cell? ⟨gb1, 2, none⟩ = some (.float .f64 a1_2) := (blk_cell BX1.out 2).trans rfl; have hxf1_2 := blk_frozen BX1.out 2; have hx1_3 : w6.cell? ⟨gb1, 3, none⟩ = some (.slice A1_3 l1_3.length c1_3) := (blk_cell BX1.out 3).trans rfl; have hxf1_3 := blk_frozen BX1.out 3; have n0_ := Aside0.mk (below_step HB.out hb); clear HB; have HB := n0_; clear n0_ hbox hg hb) | (go_at_call 72; refine (impl_KeyOk.calls a1_0 a1_1 a1_2 A1_3 c1_3 l1_3 _ _ (Kd.C_below HR1_3.out HB.out) HC1_3.out AK.out).mono ?_; rintro e w' ⟨rfl, hb⟩; have ma_ := Aside0.mk (blk_below (g := gb0) (o := .cells #[.int .i64 a0_0, .int .i64 a0_1, .int .i64 a0_2, .bool false, .slice A0_4 l0_4.length c0_4, .slice A0_5 l0_5.length c0_5, .bool a0_6, .bool a0_7] 61 (0, 0)) BX0.out hb); have mb_ := Aside0.mk (blk_below (g := gb1) (o := .cells #[.int .i64 a1_0, .int .i64 a1_1, .float .f64 a1_2, .slice A1_3 l1_3.length c1_3] 27 (0, 0)) BX1.out hb); clear BX0 BX1; have BX0 := ma_; have BX1 := mb_; clear ma_ mb_; have hy0_0 : w'.cell? ⟨gb0, 0, none⟩ = some (.int .i64 a0_0) := (blk_cell BX0.out 0).trans rfl; have hyf0_0 := blk_frozen BX0.out 0; have hy0_1 : w'.cell? ⟨gb0, 1, none⟩ = some (.int .i64 a0_1) := (blk_cell BX0.out 1).trans rfl; have hyf0_1 := blk_frozen BX0.out 1; have hy0_2 : w'.cell? ⟨gb0, 2, none⟩ = some (.int .i64 a0_2) := (blk_cell BX0.out 2).trans rfl; have hyf0_2 := blk_frozen BX0.out 2; have hy0_3 : w'.cell? ⟨gb0, 3, none⟩ = some (.bool false) := (blk_cell BX0.out 3).trans rfl; have hyf0_3 := blk_frozen BX0.out 3; have hy0_4 : w'.cell? ⟨gb0, 4, none⟩ = some (.slice A0_4 l0_4.length c0_4) := (blk_cell BX0.out 4).trans rfl; have hyf0_4 := blk_frozen BX0.out 4; have hy0_5 : w'.cell? ⟨gb0, 5, none⟩ = some (.slice A0_5 l0_5.length c0_5) := (blk_cell BX0.out 5).trans rfl; have hyf0_5 := blk_frozen BX0.out 5; have hy0_6 : w'.cell? ⟨gb0, 6, none⟩ = some (.bool a0_6) := (blk_cell BX0.out 6).trans rfl; have hyf0_6 := blk_frozen BX0.out 6; have hy0_7 : w'.cell? ⟨gb0, 7, none⟩ = some (.bool a0_7) := (blk_cell BX0.out 7).trans rfl; have hyf0_7 := blk_frozen BX0.out 7; have hy1_0 : w'.cell? ⟨gb1, 0, none⟩ = some (.int .i64 a1_0) := (blk_cell BX1.out 0).trans rfl; have hyf1_0 := blk_frozen BX1.out 0; have hy1_1 : w'.cell? ⟨gb1, 1, none⟩ = some (.int .i64 a1_1) := (blk_cell BX1.out 1).trans rfl; have hyf1_1 := blk_frozen BX1.out 1; have hy1_2 : w'.cell? ⟨gb1, 2, none⟩ = some (.float .f64 a1_2) := (blk_cell BX1.out 2).trans rfl; have hyf1_2 := blk_frozen BX1.out 2; have hy1_3 : w'.cell? ⟨gb1, 3, none⟩ = some (.slice A1_3 l1_3.length c1_3) := (blk_cell BX1.out 3).trans rfl; have hyf1_3 := blk_frozen BX1.out 3; have n0_ := Aside0.mk (below_step HB.out hb); clear HB; have HB := n0_; clear n0_ hb) | (go_at_call 86; refine (containsFunc_Span p A0_4 c0_4 l0_4 _ (Kd.C_below HR0_4.out HB.out) HC0_4.out 87 #[.pointer (some ⟨gb1, 0, none⟩)] goes_impl_TrackReads_1 ?hf).mono ?_; (case hf => exact (by intro j Ae3_ ce3_ Ae7_ ce7_ w1 hj hb1 hl3_ hC3_ hl7_ hC7_; have hm : (rd_T38 l0_4 (j : Int)) ∈ l0_4 := (by simp [rd_T38, hj]); have hbk1 := blk_below (g := gb1) (o := .cells #[.int .i64 a1_0, .int .i64 a1_1, .float .f64 a1_2, .slice A1_3 l1_3.length c1_3] 27 (0, 0)) BX1.out hb1; exact (impl_TrackReads_1.calls k (rd_T38 l0_4 (j : Int)).f0.f0 (rd_T38 l0_4 (j : Int)).f0.f1 (rd_T38 l0_4 (j : Int)).f0.f2 Ae3_ ce3_ (rd_T38 l0_4 (j : Int)).f0.f3 (rd_T38 l0_4 (j : Int)).f1.f0 (rd_T38 l0_4 (j : Int)).f1.f1 (rd_T38 l0_4 (j : Int)).f1.f2 Ae7_ ce7_ (rd_T38 l0_4 (j : Int)).f1.f3 a1_0 a1_1 a1_2 A1_3 c1_3 l1_3 gb1 (p (rd_T38 l0_4 (j : Int))) w1 hC3_ hl3_ hC7_ hl7_ (Kd.C_below (Kd.C_below HR1_3.out HB.out) hb1) HC1_3.out hbk1 (HP.out _ hm)))); rintro e w' ⟨rfl, hb⟩; have n0_ := Aside0.mk (below_step HB.out hb); clear HB; have HB := n0_; clear n0_ hb))
      go_ret
      exact ⟨by first | rfl | simp [*], HB.out⟩

/-! ### laws_eqSpan: function 24 -/
def laws_eqSpan.f (k : Nat) (a0_0 : Int) (a0_1 : Int) (a0_2 : Nat) (l0_3 : List Int) (a0_4 : Int) (a0_5 : Int) (a0_6 : Nat) (l0_7 : List Int) (a1_0 : Int) (a1_1 : Int) (a1_2 : Nat) (l1_3 : List Int) (a1_4 : Int) (a1_5 : Int) (a1_6 : Nat) (l1_7 : List Int) : Option (Bool) := (laws_eqItem.f k a0_0 a0_1 a0_2 l0_3 a1_0 a1_1 a1_2 l1_3).bind fun t250 => (if t250 = true then ((laws_eqItem.f k a0_4 a0_5 a0_6 l0_7 a1_4 a1_5 a1_6 l1_7).bind fun t251 => (if t251 = true then (some true) else (some false))) else (some false))
theorem laws_eqSpan.mono : ∀ a0 a1 a2 a3 a4 a5 a6 a7 a8 a9 a10 a11 a12 a13 a14 a15 k, LeO (laws_eqSpan.f k a0 a1 a2 a3 a4 a5 a6 a7 a8 a9 a10 a11 a12 a13 a14 a15) (laws_eqSpan.f (k + 1) a0 a1 a2 a3 a4 a5 a6 a7 a8 a9 a10 a11 a12 a13 a14 a15) := by
  intro a0 a1 a2 a3 a4 a5 a6 a7 a8 a9 a10 a11 a12 a13 a14 a15 k
  unfold laws_eqSpan.f
  repeat' first
      | (with_reducible exact laws_eqItem.mono _ _ _ _ _ _ _ _ _)
      | (with_reducible exact LeO.refl _)
      | (with_reducible exact LeO.none _)
      | (with_reducible refine LeO.ite ?_ ?_)
      | (with_reducible refine LeO.bind ?_ (fun _ => ?_))
      | exact laws_eqItem.mono _ _ _ _ _ _ _ _ _
      | exact LeO.none _
      | refine LeO.ite ?_ ?_
      | refine LeO.bind ?_ (fun _ => ?_)
set_option maxHeartbeats 8000000 in
set_option maxRecDepth 100000 in
theorem laws_eqSpan.calls (k : Nat) (a0_0 : Int) (a0_1 : Int) (a0_2 : Nat) (A0_3 : Option Addr) (c0_3 : Nat) (l0_3 : List Int) (a0_4 : Int) (a0_5 : Int) (a0_6 : Nat) (A0_7 : Option Addr) (c0_7 : Nat) (l0_7 : List Int) (a1_0 : Int) (a1_1 : Int) (a1_2 : Nat) (A1_3 : Option Addr) (c1_3 : Nat) (l1_3 : List Int) (a1_4 : Int) (a1_5 : Int) (a1_6 : Nat) (A1_7 : Option Addr) (c1_7 : Nat) (l1_7 : List Int) (r : Bool) (w : World) (hr0_3 : Kd.C (Kd.int .u8) w A0_3 l0_3.length l0_3) (hc0_3 : l0_3.length ≤ c0_3) (hr0_7 : Kd.C (Kd.int .u8) w A0_7 l0_7.length l0_7) (hc0_7 : l0_7.length ≤ c0_7) (hr1_3 : Kd.C (Kd.int .u8) w A1_3 l1_3.length l1_3) (hc1_3 : l1_3.length ≤ c1_3) (hr1_7 : Kd.C (Kd.int .u8) w A1_7 l1_7.length l1_7) (hc1_7 : l1_7.length ≤ c1_7) (h : laws_eqSpan.f k a0_0 a0_1 a0_2 l0_3 a0_4 a0_5 a0_6 l0_7 a1_0 a1_1 a1_2 l1_3 a1_4 a1_5 a1_6 l1_7 = some r) (hrt : r = true) :
    Calls Try.prog 24 #[.agg #[.int .i64 a0_0, .int .i64 a0_1, .float .f64 a0_2, .slice A0_3 l0_3.length c0_3, .int .i64 a0_4, .int .i64 a0_5, .float .f64 a0_6, .slice A0_7 l0_7.length c0_7], .agg #[.int .i64 a1_0, .int .i64 a1_1, .float .f64 a1_2, .slice A1_3 l1_3.length c1_3, .int .i64 a1_4, .int .i64 a1_5, .float .f64 a1_6, .slice A1_7 l1_7.length c1_7]] w fun e w' => e = .returned (.bool r) ∧ Below w.heap.size w w' := by
  have hu38 := Try.underlying38
  have hu27 := Try.underlying27
  have HR0_3 := Aside0.mk hr0_3
  have HC0_3 := Aside0.mk hc0_3
  clear hr0_3 hc0_3
  have HR0_7 := Aside0.mk hr0_7
  have HC0_7 := Aside0.mk hc0_7
  clear hr0_7 hc0_7
  have HR1_3 := Aside0.mk hr1_3
  have HC1_3 := Aside0.mk hc1_3
  clear hr1_3 hc1_3
  have HR1_7 := Aside0.mk hr1_7
  have HC1_7 := Aside0.mk hc1_7
  clear hr1_7 hc1_7
  have HB := Aside0.mk (Below.refl w.heap.size w)
  have H : ((laws_eqItem.f k a0_0 a0_1 a0_2 l0_3 a1_0 a1_1 a1_2 l1_3).bind fun t250 => (if t250 = true then ((laws_eqItem.f k a0_4 a0_5 a0_6 l0_7 a1_4 a1_5 a1_6 l1_7).bind fun t251 => (if t251 = true then (some true) else (some false))) else (some false))) = some r := h
  clear h
  replace H := Option.bind_eq_some_iff.mp H
  obtain ⟨t250, A30, H⟩ := H
  replace H : (if t250 = true then ((laws_eqItem.f k a0_4 a0_5 a0_6 l0_7 a1_4 a1_5 a1_6 l1_7).bind fun t251 => (if t251 = true then (some true) else (some false))) else (some false)) = some r := H
  have A3 := Aside0.mk A30
  clear A30
  by_cases c4 : t250 = true
  · subst c4
    have H1 : ((laws_eqItem.f k a0_4 a0_5 a0_6 l0_7 a1_4 a1_5 a1_6 l1_7).bind fun t251 => (if t251 = true then (some true) else (some false))) = some r := by rw [if_pos rfl] at H; exact H
    clear H
    have H := H1
    clear H1
    replace H := Option.bind_eq_some_iff.mp H
    obtain ⟨t251, A50, H⟩ := H
    replace H : (if t251 = true then (some true) else (some false)) = some r := H
    have A5 := Aside0.mk A50
    clear A50
    by_cases c6 : t251 = true
    · subst c6
      have H1 : (some true) = some r := by rw [if_pos rfl] at H; exact H
      clear H
      have H := H1
      clear H1
      obtain rfl := Option.some.inj H
      go_enter Try.func24, Try.ntmps24
      go_wp2_with (first | ((with_reducible refine gate_dst (N := 2) rfl ?_); refine box_event ?hg (N := 2) ?hd (cs := #[.int .i64 a0_0, .int .i64 a0_1, .float .f64 a0_2, .slice A0_3 l0_3.length c0_3, .int .i64 a0_4, .int .i64 a0_5, .float .f64 a0_6, .slice A0_7 l0_7.length c0_7]) (t := 38) ?hr ?_; (case hd => rfl); (case hg => rfl); (case hr => first | (go_simp; done) | (go_simp; rfl)); intro gb248 hg w7 hbox hb; have n0_ := Aside0.mk (below_step (by repeat (first | (with_reducible first | exact HB.out | apply below_alloc | apply pw_below_drewN | apply below_drew1) | exact HB.out)) hb); have n1_ := Aside0.mk (hbox); have n2_ := Aside0.mk ((by rw [hg]; exact (below_size (by repeat (first | (with_reducible first | exact HB.out | apply below_alloc | apply pw_below_drewN | apply below_drew1) | exact HB.out))) : w.heap.size ≤ gb248)); have n3_ := Aside0.mk ((by rw [hg]; exact (below_size (by repeat (first | (with_reducible first | exact HB.out | apply below_alloc | apply pw_below_drewN | apply below_drew1) | exact HB.out))) : w.heap.size ≤ gb248)); clear HB; have HB := n0_; have BK248 := n1_; have GW248 := n2_; have GE248 := n3_; clear n0_ n1_ n2_ n3_; clear hb hbox hg) | ((with_reducible refine gate_dst (N := 3) rfl ?_); refine box_event ?hg (N := 3) ?hd (cs := #[.int .i64 a1_0, .int .i64 a1_1, .float .f64 a1_2, .slice A1_3 l1_3.length c1_3, .int .i64 a1_4, .int .i64 a1_5, .float .f64 a1_6, .slice A1_7 l1_7.length c1_7]) (t := 38) ?hr ?_; (case hd => rfl); (case hg => rfl); (case hr => first | (go_simp; done) | (go_simp; rfl)); intro gb249 hg w8 hbox hb; have n0_ := Aside0.mk (blk_below (g := gb248) (o := .cells #[.int .i64 a0_0, .int .i64 a0_1, .float .f64 a0_2, .slice A0_3 l0_3.length c0_3, .int .i64 a0_4, .int .i64 a0_5, .float .f64 a0_6, .slice A0_7 l0_7.length c0_7] 38 (0, 0)) (by (with_reducible repeat (first | refine blk_drewN ?_ _ | refine blk_drew ?_ | refine blk_alloc ?_ _)); exact BK248.out) hb); have n1_ := Aside0.mk (below_step (by repeat (first | (with_reducible first | exact HB.out | apply below_alloc | apply pw_below_drewN | apply below_drew1 | refine below_set ?_ GE248.out) | exact HB.out)) hb); have n2_ := Aside0.mk (hbox); have n3_ := Aside0.mk ((by rw [hg]; exact (below_size (by repeat (first | (with_reducible first | exact HB.out | apply below_alloc | apply pw_below_drewN | apply below_drew1 | refine below_set ?_ GE248.out) | exact HB.out))) : w.heap.size ≤ gb249)); have n4_ := Aside0.mk ((by rw [hg]; exact (below_size (by repeat (first | (with_reducible first | exact HB.out | apply below_alloc | apply pw_below_drewN | apply below_drew1 | refine below_set ?_ GE248.out) | exact HB.out))) : w.heap.size ≤ gb249)); have n5_ := Aside0.mk ((by rw [hg]; exact Nat.ne_of_lt (blk_lt (g := gb248) (o := .cells #[.int .i64 a0_0, .int .i64 a0_1, .float .f64 a0_2, .slice A0_3 l0_3.length c0_3, .int .i64 a0_4, .int .i64 a0_5, .float .f64 a0_6, .slice A0_7 l0_7.length c0_7] 38 (0, 0)) (by (with_reducible repeat (first | refine blk_drewN ?_ _ | refine blk_drew ?_ | refine blk_alloc ?_ _)); exact BK248.out)) : gb248 ≠ gb249)); have n6_ := Aside0.mk ((by rw [hg]; exact Nat.ne_of_gt (blk_lt (g := gb248) (o := .cells #[.int .i64 a0_0, .int .i64 a0_1, .float .f64 a0_2, .slice A0_3 l0_3.length c0_3, .int .i64 a0_4, .int .i64 a0_5, .float .f64 a0_6, .slice A0_7 l0_7.length c0_7] 38 (0, 0)) (by (with_reducible repeat (first | refine blk_drewN ?_ _ | refine blk_drew ?_ | refine blk_alloc ?_ _)); exact BK248.out)) : gb249 ≠ gb248)); clear BK248; clear HB; have BK248 := n0_; have HB := n1_; have BK249 := n2_; have GW249 := n3_; have GE249 := n4_; have NB248_249 := n5_; have NB249_248 := n6_; clear n0_ n1_ n2_ n3_ n4_ n5_ n6_; clear hb hbox hg; have hnb9 := NB248_249.out; have hnc9 := NB249_248.out; have hcz10_0 : w8.cell? ⟨gb248, 0, none⟩ = some (.int .i64 a0_0) := (blk_cell BK248.out 0).trans rfl; have hcz10_1 : w8.cell? ⟨gb248, 1, none⟩ = some (.int .i64 a0_1) := (blk_cell BK248.out 1).trans rfl; have hcz10_2 : w8.cell? ⟨gb248, 2, none⟩ = some (.float .f64 a0_2) := (blk_cell BK248.out 2).trans rfl; have hcz10_3 : w8.cell? ⟨gb248, 3, none⟩ = some (.slice A0_3 l0_3.length c0_3) := (blk_cell BK248.out 3).trans rfl; have hcz10_4 : w8.cell? ⟨gb248, 4, none⟩ = some (.int .i64 a0_4) := (blk_cell BK248.out 4).trans rfl; have hcz10_5 : w8.cell? ⟨gb248, 5, none⟩ = some (.int .i64 a0_5) := (blk_cell BK248.out 5).trans rfl; have hcz10_6 : w8.cell? ⟨gb248, 6, none⟩ = some (.float .f64 a0_6) := (blk_cell BK248.out 6).trans rfl; have hcz10_7 : w8.cell? ⟨gb248, 7, none⟩ = some (.slice A0_7 l0_7.length c0_7) := (blk_cell BK248.out 7).trans rfl; have hfz10_0 := blk_frozen BK248.out 0; have hfz10_1 := blk_frozen BK248.out 1; have hfz10_2 := blk_frozen BK248.out 2; have hfz10_3 := blk_frozen BK248.out 3; have hfz10_4 := blk_frozen BK248.out 4; have hfz10_5 := blk_frozen BK248.out 5; have hfz10_6 := blk_frozen BK248.out 6; have hfz10_7 := blk_frozen BK248.out 7; have hcz11_0 : w8.cell? ⟨gb249, 0, none⟩ = some (.int .i64 a1_0) := (blk_cell BK249.out 0).trans rfl; have hcz11_1 : w8.cell? ⟨gb249, 1, none⟩ = some (.int .i64 a1_1) := (blk_cell BK249.out 1).trans rfl; have hcz11_2 : w8.cell? ⟨gb249, 2, none⟩ = some (.float .f64 a1_2) := (blk_cell BK249.out 2).trans rfl; have hcz11_3 : w8.cell? ⟨gb249, 3, none⟩ = some (.slice A1_3 l1_3.length c1_3) := (blk_cell BK249.out 3).trans rfl; have hcz11_4 : w8.cell? ⟨gb249, 4, none⟩ = some (.int .i64 a1_4) := (blk_cell BK249.out 4).trans rfl; have hcz11_5 : w8.cell? ⟨gb249, 5, none⟩ = some (.int .i64 a1_5) := (blk_cell BK249.out 5).trans rfl; have hcz11_6 : w8.cell? ⟨gb249, 6, none⟩ = some (.float .f64 a1_6) := (blk_cell BK249.out 6).trans rfl; have hcz11_7 : w8.cell? ⟨gb249, 7, none⟩ = some (.slice A1_7 l1_7.length c1_7) := (blk_cell BK249.out 7).trans rfl; have hfz11_0 := blk_frozen BK249.out 0; have hfz11_1 := blk_frozen BK249.out 1; have hfz11_2 := blk_frozen BK249.out 2; have hfz11_3 := blk_frozen BK249.out 3; have hfz11_4 := blk_frozen BK249.out 4; have hfz11_5 := blk_frozen BK249.out 5; have hfz11_6 := blk_frozen BK249.out 6; have hfz11_7 := blk_frozen BK249.out 7) | ((with_reducible refine gate_callee (f := 17) rfl ?_); refine goesL_ (some 9) rfl rfl Try.func17 (by kernel_rfl) rfl #[.agg #[.int .i64 a0_0, .int .i64 a0_1, .float .f64 a0_2, .slice A0_3 l0_3.length c0_3], .agg #[.int .i64 a1_0, .int .i64 a1_1, .float .f64 a1_2, .slice A1_3 l1_3.length c1_3]] rfl (by (try simp only [List.map_toArray, List.map_cons, List.map_nil]); first | done | rfl | (simp only [List.length_drop, List.length_take]; rfl)) ?_; (with_reducible refine (laws_eqItem.calls k a0_0 a0_1 a0_2 _ _ l0_3 a1_0 a1_1 a1_2 _ _ l1_3 true _ ?side1 ?side2 ?side3 ?side4 A3.out rfl).mono ?_); (case side1 => repeat (first | exact (Kd.C_below HR0_3.out HB.out) | (with_reducible refine Kd.C_alloc ?_ _) | (with_reducible refine Kd.C_drewN ?_ _) | (with_reducible refine Kd.C_drew ?_))); (case side2 => exact HC0_3.out); (case side3 => repeat (first | exact (Kd.C_below HR1_3.out HB.out) | (with_reducible refine Kd.C_alloc ?_ _) | (with_reducible refine Kd.C_drewN ?_ _) | (with_reducible refine Kd.C_drew ?_))); (case side4 => exact HC1_3.out); rintro e w12 ⟨rfl, hb⟩; refine ⟨_, rfl, ?_⟩; have n0_ := Aside0.mk (blk_below (g := gb248) (o := .cells #[.int .i64 a0_0, .int .i64 a0_1, .float .f64 a0_2, .slice A0_3 l0_3.length c0_3, .int .i64 a0_4, .int .i64 a0_5, .float .f64 a0_6, .slice A0_7 l0_7.length c0_7] 38 (0, 0)) (by (with_reducible repeat (first | refine blk_drewN ?_ _ | refine blk_drew ?_ | refine blk_alloc ?_ _)); exact BK248.out) hb); have n1_ := Aside0.mk (blk_below (g := gb249) (o := .cells #[.int .i64 a1_0, .int .i64 a1_1, .float .f64 a1_2, .slice A1_3 l1_3.length c1_3, .int .i64 a1_4, .int .i64 a1_5, .float .f64 a1_6, .slice A1_7 l1_7.length c1_7] 38 (0, 0)) (by (with_reducible repeat (first | refine blk_drewN ?_ _ | refine blk_drew ?_ | refine blk_alloc ?_ _)); exact BK249.out) hb); have n2_ := Aside0.mk (below_step (by repeat (first | (with_reducible first | exact HB.out | apply below_alloc | apply pw_below_drewN | apply below_drew1 | refine below_set ?_ GE248.out | refine below_set ?_ GE249.out) | exact HB.out)) hb); clear BK248; clear BK249; clear HB; have BK248 := n0_; have BK249 := n1_; have HB := n2_; clear n0_ n1_ n2_; (try clear hb); (try clear hb2); (try clear hk); (try clear hi); have hcz13_0 : w12.cell? ⟨gb248, 0, none⟩ = some (.int .i64 a0_0) := (blk_cell BK248.out 0).trans rfl; have hcz13_1 : w12.cell? ⟨gb248, 1, none⟩ = some (.int .i64 a0_1) := (blk_cell BK248.out 1).trans rfl; have hcz13_2 : w12.cell? ⟨gb248, 2, none⟩ = some (.float .f64 a0_2) := (blk_cell BK248.out 2).trans rfl; have hcz13_3 : w12.cell? ⟨gb248, 3, none⟩ = some (.slice A0_3 l0_3.length c0_3) := (blk_cell BK248.out 3).trans rfl; have hcz13_4 : w12.cell? ⟨gb248, 4, none⟩ = some (.int .i64 a0_4) := (blk_cell BK248.out 4).trans rfl; have hcz13_5 : w12.cell? ⟨gb248, 5, none⟩ = some (.int .i64 a0_5) := (blk_cell BK248.out 5).trans rfl; have hcz13_6 : w12.cell? ⟨gb248, 6, none⟩ = some (.float .f64 a0_6) := (blk_cell BK248.out 6).trans rfl; have hcz13_7 : w12.cell? ⟨gb248, 7, none⟩ = some (.slice A0_7 l0_7.length c0_7) := (blk_cell BK248.out 7).trans rfl; have hfz13_0 := blk_frozen BK248.out 0; have hfz13_1 := blk_frozen BK248.out 1; have hfz13_2 := blk_frozen BK248.out 2; have hfz13_3 := blk_frozen BK248.out 3; have hfz13_4 := blk_frozen BK248.out 4; have hfz13_5 := blk_frozen BK248.out 5; have hfz13_6 := blk_frozen BK248.out 6; have hfz13_7 := blk_frozen BK248.out 7; have hcz14_0 : w12.cell? ⟨gb249, 0, none⟩ = some (.int .i64 a1_0) := (blk_cell BK249.out 0).trans rfl; have hcz14_1 : w12.cell? ⟨gb249, 1, none⟩ = some (.int .i64 a1_1) := (blk_cell BK249.out 1).trans rfl; have hcz14_2 : w12.cell? ⟨gb249, 2, none⟩ = some (.float .f64 a1_2) := (blk_cell BK249.out 2).trans rfl; have hcz14_3 : w12.cell? ⟨gb249, 3, none⟩ = some (.slice A1_3 l1_3.length c1_3) := (blk_cell BK249.out 3).trans rfl; have hcz14_4 : w12.cell? ⟨gb249, 4, none⟩ = some (.int .i64 a1_4) := (blk_cell BK249.out 4).trans rfl; have hcz14_5 : w12.cell? ⟨gb249, 5, none⟩ = some (.int .i64 a1_5) := (blk_cell BK249.out 5).trans rfl; have hcz14_6 : w12.cell? ⟨gb249, 6, none⟩ = some (.float .f64 a1_6) := (blk_cell BK249.out 6).trans rfl; have hcz14_7 : w12.cell? ⟨gb249, 7, none⟩ = some (.slice A1_7 l1_7.length c1_7) := (blk_cell BK249.out 7).trans rfl; have hfz14_0 := blk_frozen BK249.out 0; have hfz14_1 := blk_frozen BK249.out 1; have hfz14_2 := blk_frozen BK249.out 2; have hfz14_3 := blk_frozen BK249.out 3; have hfz14_4 := blk_frozen BK249.out 4; have hfz14_5 := blk_frozen BK249.out 5; have hfz14_6 := blk_frozen BK249.out 6; have hfz14_7 := blk_frozen BK249.out 7) | ((with_reducible refine gate_callee (f := 17) rfl ?_); refine goesL_ (some 15) rfl rfl Try.func17 (by kernel_rfl) rfl #[.agg #[.int .i64 a0_4, .int .i64 a0_5, .float .f64 a0_6, .slice A0_7 l0_7.length c0_7], .agg #[.int .i64 a1_4, .int .i64 a1_5, .float .f64 a1_6, .slice A1_7 l1_7.length c1_7]] rfl (by (try simp only [List.map_toArray, List.map_cons, List.map_nil]); first | done | rfl | (simp only [List.length_drop, List.length_take]; rfl)) ?_; (with_reducible refine (laws_eqItem.calls k a0_4 a0_5 a0_6 _ _ l0_7 a1_4 a1_5 a1_6 _ _ l1_7 true _ ?side1 ?side2 ?side3 ?side4 A5.out rfl).mono ?_); (case side1 => repeat (first | exact (Kd.C_below HR0_7.out HB.out) | (with_reducible refine Kd.C_alloc ?_ _) | (with_reducible refine Kd.C_drewN ?_ _) | (with_reducible refine Kd.C_drew ?_))); (case side2 => exact HC0_7.out); (case side3 => repeat (first | exact (Kd.C_below HR1_7.out HB.out) | (with_reducible refine Kd.C_alloc ?_ _) | (with_reducible refine Kd.C_drewN ?_ _) | (with_reducible refine Kd.C_drew ?_))); (case side4 => exact HC1_7.out); rintro e w15 ⟨rfl, hb⟩; refine ⟨_, rfl, ?_⟩; have n0_ := Aside0.mk (blk_below (g := gb248) (o := .cells #[.int .i64 a0_0, .int .i64 a0_1, .float .f64 a0_2, .slice A0_3 l0_3.length c0_3, .int .i64 a0_4, .int .i64 a0_5, .float .f64 a0_6, .slice A0_7 l0_7.length c0_7] 38 (0, 0)) (by (with_reducible repeat (first | refine blk_drewN ?_ _ | refine blk_drew ?_ | refine blk_alloc ?_ _)); exact BK248.out) hb); have n1_ := Aside0.mk (blk_below (g := gb249) (o := .cells #[.int .i64 a1_0, .int .i64 a1_1, .float .f64 a1_2, .slice A1_3 l1_3.length c1_3, .int .i64 a1_4, .int .i64 a1_5, .float .f64 a1_6, .slice A1_7 l1_7.length c1_7] 38 (0, 0)) (by (with_reducible repeat (first | refine blk_drewN ?_ _ | refine blk_drew ?_ | refine blk_alloc ?_ _)); exact BK249.out) hb); have n2_ := Aside0.mk (below_step (by repeat (first | (with_reducible first | exact HB.out | apply below_alloc | apply pw_below_drewN | apply below_drew1 | refine below_set ?_ GE248.out | refine below_set ?_ GE249.out) | exact HB.out)) hb); clear BK248; clear BK249; clear HB; have BK248 := n0_; have BK249 := n1_; have HB := n2_; clear n0_ n1_ n2_; (try clear hb); (try clear hb2); (try clear hk); (try clear hi)))
      go_ret
      exact ⟨by first | rfl | (simp [errW_none, errW_some] <;> rfl) | (simp [*, errW_none, errW_some] <;> rfl), by repeat (first | (with_reducible first | exact HB.out | apply below_alloc | apply pw_below_drewN | apply below_drew1 | refine below_set ?_ GE248.out | refine below_set ?_ GE249.out) | exact HB.out)⟩
    · replace c6 := Bool.eq_false_iff.mpr c6
      subst c6
      have H1 : (some false) = some r := by rw [if_neg (show ¬ (false = true) by decide)] at H; exact H
      clear H
      have H := H1
      clear H1
      exact absurd (Option.some.inj H) (by rw [hrt]; decide)
  · replace c4 := Bool.eq_false_iff.mpr c4
    subst c4
    have H1 : (some false) = some r := by rw [if_neg (show ¬ (false = true) by decide)] at H; exact H
    clear H
    have H := H1
    clear H1
    exact absurd (Option.some.inj H) (by rw [hrt]; decide)

/-! ### laws_eqSpanS: function 89 -/
def laws_eqSpanS.l0 : Nat → List (S38) → List (S38) → Int → Option (Bool)
  | 0, _, _, _ => none
  | k + 1, x0, x1, x5 => if x5 < (x0.length : Int) then (if 0 ≤ x5 then (if x5 < (x1.length : Int) then ((laws_eqSpan.f k ((rd_T38 x0 x5).f0.f0) ((rd_T38 x0 x5).f0.f1) ((rd_T38 x0 x5).f0.f2) ((rd_T38 x0 x5).f0.f3) ((rd_T38 x0 x5).f1.f0) ((rd_T38 x0 x5).f1.f1) ((rd_T38 x0 x5).f1.f2) ((rd_T38 x0 x5).f1.f3) ((rd_T38 x1 x5).f0.f0) ((rd_T38 x1 x5).f0.f1) ((rd_T38 x1 x5).f0.f2) ((rd_T38 x1 x5).f0.f3) ((rd_T38 x1 x5).f1.f0) ((rd_T38 x1 x5).f1.f1) ((rd_T38 x1 x5).f1.f2) ((rd_T38 x1 x5).f1.f3)).bind fun t254 => (if t254 = true then (laws_eqSpanS.l0 k x0 x1 (wrap64 (x5 + 1))) else (some false))) else (none)) else (none)) else (some true)
def laws_eqSpanS.f (k : Nat) (l0 : List (S38)) (l1 : List (S38)) : Option (Bool) := if (l0.length : Int) = (l1.length : Int) then (laws_eqSpanS.l0 k l0 l1 0) else (some false)
theorem laws_eqSpanS.mono_l : ∀ k, (∀ y0 y1 y2, LeO (laws_eqSpanS.l0 k y0 y1 y2) (laws_eqSpanS.l0 (k + 1) y0 y1 y2))
  | 0 => fun _ _ _ r h => by simp [laws_eqSpanS.l0] at h
  | k + 1 => by
    have ih0 := laws_eqSpanS.mono_l k
    · intro y0 y1 y2
      unfold laws_eqSpanS.l0
      repeat' first
      | (with_reducible exact ih0 _ _ _)
      | (with_reducible exact laws_eqSpan.mono _ _ _ _ _ _ _ _ _ _ _ _ _ _ _ _ _)
      | (with_reducible exact LeO.refl _)
      | (with_reducible exact LeO.none _)
      | (with_reducible refine LeO.ite ?_ ?_)
      | (with_reducible refine LeO.bind ?_ (fun _ => ?_))
      | exact ih0 _ _ _
      | exact laws_eqSpan.mono _ _ _ _ _ _ _ _ _ _ _ _ _ _ _ _ _
      | exact LeO.none _
      | refine LeO.ite ?_ ?_
      | refine LeO.bind ?_ (fun _ => ?_)
theorem laws_eqSpanS.mono : ∀ a0 a1 k, LeO (laws_eqSpanS.f k a0 a1) (laws_eqSpanS.f (k + 1) a0 a1) := by
  intro a0 a1 k
  have ih0 := laws_eqSpanS.mono_l k
  unfold laws_eqSpanS.f
  repeat' first
      | (with_reducible exact ih0 _ _ _)
      | (with_reducible exact laws_eqSpan.mono _ _ _ _ _ _ _ _ _ _ _ _ _ _ _ _ _)
      | (with_reducible exact LeO.refl _)
      | (with_reducible exact LeO.none _)
      | (with_reducible refine LeO.ite ?_ ?_)
      | (with_reducible refine LeO.bind ?_ (fun _ => ?_))
      | exact ih0 _ _ _
      | exact laws_eqSpan.mono _ _ _ _ _ _ _ _ _ _ _ _ _ _ _ _ _
      | exact LeO.none _
      | refine LeO.ite ?_ ?_
      | refine LeO.bind ?_ (fun _ => ?_)
def laws_eqSpanS.T6 : Bool × List (List Nat × List Nat) := (true, [([], []), ([], []), ([0, 1], [0, 1]), ([2], [2]), ([], []), ([], []), ([4, 5], [4, 5]), ([6], [6]), ([3, 7], [3, 7]), ([8], [8])])
def laws_eqSpanS.B6 : List Nat := [0, 0, 3, 7, 0, 0, 48, 112, 255, 511]
theorem laws_eqSpanS.tab6 : rtab .any (opsOf Try.f89 6) = laws_eqSpanS.T6 := by kernel_rfl
theorem laws_eqSpanS.bits6 : waitsOk laws_eqSpanS.T6.2 laws_eqSpanS.B6 = true := by kernel_rfl
set_option maxHeartbeats 8000000 in
set_option maxRecDepth 100000 in
theorem laws_eqSpanS.calls (k : Nat) (A0 : Option Addr) (c0 : Nat) (l0 : List (S38)) (A1 : Option Addr) (c1 : Nat) (l1 : List (S38)) (r : Bool) (w : World) (hr0 : Kd.C k38 w A0 l0.length l0) (hc0 : l0.length ≤ c0) (hr1 : Kd.C k38 w A1 l1.length l1) (hc1 : l1.length ≤ c1) (h : laws_eqSpanS.f k l0 l1 = some r) (hrt : r = true) :
    Calls Try.prog 89 #[.slice A0 l0.length c0, .slice A1 l1.length c1] w fun e w' => e = .returned (.bool r) ∧ Below w.heap.size w w' := by
  have hu38 := Try.underlying38
  have HR0 := Aside0.mk hr0
  have HC0 := Aside0.mk hc0
  clear hr0 hc0
  have HR1 := Aside0.mk hr1
  have HC1 := Aside0.mk hc1
  clear hr1 hc1
  have HB := Aside0.mk (Below.refl w.heap.size w)
  have H : (if (l0.length : Int) = (l1.length : Int) then (laws_eqSpanS.l0 k l0 l1 0) else (some false)) = some r := h
  clear h
  by_cases c3 : (l0.length : Int) = (l1.length : Int)
  · rw [if_pos c3] at H
    have c3b0 : ((l0.length : Int) == (l1.length : Int)) = true := beq_iff_eq.mpr c3
    have c3b1 : ((l0.length : Int) != (l1.length : Int)) = false := bne_eq_false_iff_eq.mpr c3
    have c3b2 : (l0.length == l1.length) = true := by first | simpa using c3 | (simp at c3 ⊢; omega)
    clear c3
    have H' := Aside0.mk H
    clear H
    go_enter Try.func89, Try.ntmps89
    go_wp2
    go_loopg [5] k (fun kq v5 w' => ∃ (x5_1 : Int), v5 = .int .i64 x5_1 ∧ Aside0 (laws_eqSpanS.l0 kq l0 l1 x5_1 = some r) ∧ Aside0 (kq ≤ k) ∧ Aside0 (Below w.heap.size w w'))
    case atStart => exact ⟨(0), (by first | rfl | (simp; done) | (simp [*]; done)), H', ⟨Nat.le_refl _⟩, ⟨by repeat (first | (with_reducible first | exact HB.out | apply below_alloc | apply pw_below_drewN | apply below_drew1) | exact HB.out)⟩⟩
    case round =>
      clear H'
      try clear c1
      try clear p2
      try clear c3
      try clear c3b0
      try clear c3b1
      try clear c3b2
      obtain ⟨x5_1, rfl, HA, HK1, HB⟩ := hrel
      cases gk with
      | zero => exact absurd HA.out (by simp [laws_eqSpanS.l0])
      | succ k1 =>
        have H := HA.out
        clear HA
        simp only [laws_eqSpanS.l0] at H
        by_cases c4 : x5_1 < (l0.length : Int)
        · rw [if_pos c4] at H
          have c4b0 : decide (x5_1 < (l0.length : Int)) = true := decide_eq_true c4
          clear c4
          by_cases c5 : 0 ≤ x5_1
          · rw [if_pos c5] at H
            have c5b0 : decide (0 ≤ x5_1) = true := decide_eq_true c5
            clear c5
            by_cases c6 : x5_1 < (l1.length : Int)
            · rw [if_pos c6] at H
              have c6b0 : decide (x5_1 < (l1.length : Int)) = true := decide_eq_true c6
              clear c6
              replace H := Option.bind_eq_some_iff.mp H
              obtain ⟨t254, A70, H⟩ := H
              replace H : (if t254 = true then (laws_eqSpanS.l0 k1 l0 l1 (wrap64 (x5_1 + 1))) else (some false)) = some r := H
              have A7 := Aside0.mk A70
              clear A70
              by_cases c8 : t254 = true
              · subst c8
                have H1 : (laws_eqSpanS.l0 k1 l0 l1 (wrap64 (x5_1 + 1))) = some r := by rw [if_pos rfl] at H; exact H
                clear H
                have H := H1
                clear H1
                have H' := Aside0.mk H
                clear H
                try go_wp2
                have n0_ := Aside0.mk (below_drew1 HB.out)
                clear HB
                have HB := n0_
                clear n0_
                have p252 : 0 ≤ (x5_1 : Int) := of_decide_eq_true (by first | (with_reducible assumption) | assumption)
                have q252 : x5_1 < (l0.length : Int) := of_decide_eq_true (by first | (with_reducible assumption) | assumption)
                obtain ⟨ad252, A252_3, c252_3, A252_7, c252_7, e252, hx252_0, hx252_1, hx252_2, hx252_3, hx252_4, hx252_5, hx252_6, hx252_7, hl252_3, hi252_3, hl252_7, hi252_7⟩ := at_T38 HR0.out x5_1 p252 q252
                have hw252_7 := hx252_7
                have hw252_6 := hx252_6
                have hw252_5 := hx252_5
                have hw252_4 := hx252_4
                have hw252_3 := hx252_3
                have hw252_2 := hx252_2
                have hw252_1 := hx252_1
                have hw252_0 := hx252_0
                cases e252
                replace hx252_0 := (HB.out.cell (World.block_lt_of_cell? w _ hx252_0)).trans hx252_0
                replace hx252_1 := (HB.out.cell (World.block_lt_of_cell? w _ hx252_1)).trans hx252_1
                replace hx252_2 := (HB.out.cell (World.block_lt_of_cell? w _ hx252_2)).trans hx252_2
                replace hx252_3 := (HB.out.cell (World.block_lt_of_cell? w _ hx252_3)).trans hx252_3
                replace hx252_4 := (HB.out.cell (World.block_lt_of_cell? w _ hx252_4)).trans hx252_4
                replace hx252_5 := (HB.out.cell (World.block_lt_of_cell? w _ hx252_5)).trans hx252_5
                replace hx252_6 := (HB.out.cell (World.block_lt_of_cell? w _ hx252_6)).trans hx252_6
                replace hx252_7 := (HB.out.cell (World.block_lt_of_cell? w _ hx252_7)).trans hx252_7
                have HR252_3 := Aside0.mk hi252_3
                have HC252_3 := Aside0.mk hl252_3
                clear hi252_3 hl252_3
                have HR252_7 := Aside0.mk hi252_7
                have HC252_7 := Aside0.mk hl252_7
                clear hi252_7 hl252_7
                replace p252 := eq_true p252
                replace q252 := eq_true q252
                have p253 : 0 ≤ (x5_1 : Int) := of_decide_eq_true (by first | (with_reducible assumption) | assumption)
                have q253 : x5_1 < (l1.length : Int) := of_decide_eq_true (by first | (with_reducible assumption) | assumption)
                obtain ⟨ad253, A253_3, c253_3, A253_7, c253_7, e253, hx253_0, hx253_1, hx253_2, hx253_3, hx253_4, hx253_5, hx253_6, hx253_7, hl253_3, hi253_3, hl253_7, hi253_7⟩ := at_T38 HR1.out x5_1 p253 q253
                have hw253_7 := hx253_7
                have hw253_6 := hx253_6
                have hw253_5 := hx253_5
                have hw253_4 := hx253_4
                have hw253_3 := hx253_3
                have hw253_2 := hx253_2
                have hw253_1 := hx253_1
                have hw253_0 := hx253_0
                cases e253
                replace hx253_0 := (HB.out.cell (World.block_lt_of_cell? w _ hx253_0)).trans hx253_0
                replace hx253_1 := (HB.out.cell (World.block_lt_of_cell? w _ hx253_1)).trans hx253_1
                replace hx253_2 := (HB.out.cell (World.block_lt_of_cell? w _ hx253_2)).trans hx253_2
                replace hx253_3 := (HB.out.cell (World.block_lt_of_cell? w _ hx253_3)).trans hx253_3
                replace hx253_4 := (HB.out.cell (World.block_lt_of_cell? w _ hx253_4)).trans hx253_4
                replace hx253_5 := (HB.out.cell (World.block_lt_of_cell? w _ hx253_5)).trans hx253_5
                replace hx253_6 := (HB.out.cell (World.block_lt_of_cell? w _ hx253_6)).trans hx253_6
                replace hx253_7 := (HB.out.cell (World.block_lt_of_cell? w _ hx253_7)).trans hx253_7
                have HR253_3 := Aside0.mk hi253_3
                have HC253_3 := Aside0.mk hl253_3
                clear hi253_3 hl253_3
                have HR253_7 := Aside0.mk hi253_7
                have HC253_7 := Aside0.mk hl253_7
                clear hi253_7 hl253_7
                replace p253 := eq_true p253
                replace q253 := eq_true q253
                refine start_ (n := 10) (S := fun w' => w'.cell? (ad252.add ((x5_1).toNat * 8)) = some (.int .i64 ((rd_T38 l0 x5_1).f0.f0)) ∧ w'.cell? ⟨(ad252.add ((x5_1).toNat * 8)).block, (ad252.add ((x5_1).toNat * 8)).off + 1, none⟩ = some (.int .i64 ((rd_T38 l0 x5_1).f0.f1)) ∧ w'.cell? ⟨(ad252.add ((x5_1).toNat * 8)).block, (ad252.add ((x5_1).toNat * 8)).off + 2, none⟩ = some (.float .f64 ((rd_T38 l0 x5_1).f0.f2)) ∧ w'.cell? ⟨(ad252.add ((x5_1).toNat * 8)).block, (ad252.add ((x5_1).toNat * 8)).off + 3, none⟩ = some (.slice A252_3 ((rd_T38 l0 x5_1).f0.f3).length c252_3) ∧ w'.cell? ⟨(ad252.add ((x5_1).toNat * 8)).block, (ad252.add ((x5_1).toNat * 8)).off + 4, none⟩ = some (.int .i64 ((rd_T38 l0 x5_1).f1.f0)) ∧ w'.cell? ⟨(ad252.add ((x5_1).toNat * 8)).block, (ad252.add ((x5_1).toNat * 8)).off + 5, none⟩ = some (.int .i64 ((rd_T38 l0 x5_1).f1.f1)) ∧ w'.cell? ⟨(ad252.add ((x5_1).toNat * 8)).block, (ad252.add ((x5_1).toNat * 8)).off + 6, none⟩ = some (.float .f64 ((rd_T38 l0 x5_1).f1.f2)) ∧ w'.cell? ⟨(ad252.add ((x5_1).toNat * 8)).block, (ad252.add ((x5_1).toNat * 8)).off + 7, none⟩ = some (.slice A252_7 ((rd_T38 l0 x5_1).f1.f3).length c252_7) ∧ w'.cell? (ad253.add ((x5_1).toNat * 8)) = some (.int .i64 ((rd_T38 l1 x5_1).f0.f0)) ∧ w'.cell? ⟨(ad253.add ((x5_1).toNat * 8)).block, (ad253.add ((x5_1).toNat * 8)).off + 1, none⟩ = some (.int .i64 ((rd_T38 l1 x5_1).f0.f1)) ∧ w'.cell? ⟨(ad253.add ((x5_1).toNat * 8)).block, (ad253.add ((x5_1).toNat * 8)).off + 2, none⟩ = some (.float .f64 ((rd_T38 l1 x5_1).f0.f2)) ∧ w'.cell? ⟨(ad253.add ((x5_1).toNat * 8)).block, (ad253.add ((x5_1).toNat * 8)).off + 3, none⟩ = some (.slice A253_3 ((rd_T38 l1 x5_1).f0.f3).length c253_3) ∧ w'.cell? ⟨(ad253.add ((x5_1).toNat * 8)).block, (ad253.add ((x5_1).toNat * 8)).off + 4, none⟩ = some (.int .i64 ((rd_T38 l1 x5_1).f1.f0)) ∧ w'.cell? ⟨(ad253.add ((x5_1).toNat * 8)).block, (ad253.add ((x5_1).toNat * 8)).off + 5, none⟩ = some (.int .i64 ((rd_T38 l1 x5_1).f1.f1)) ∧ w'.cell? ⟨(ad253.add ((x5_1).toNat * 8)).block, (ad253.add ((x5_1).toNat * 8)).off + 6, none⟩ = some (.float .f64 ((rd_T38 l1 x5_1).f1.f2)) ∧ w'.cell? ⟨(ad253.add ((x5_1).toNat * 8)).block, (ad253.add ((x5_1).toNat * 8)).off + 7, none⟩ = some (.slice A253_7 ((rd_T38 l1 x5_1).f1.f3).length c253_7)) (ds := []) #[false, false, false, false, false, false, false, false, false, false] (by kernel_rfl) rfl rfl ⟨((HB.out.cell (World.block_lt_of_cell? w _ hw252_0)).trans hw252_0), ((HB.out.cell (World.block_lt_of_cell? w _ hw252_1)).trans hw252_1), ((HB.out.cell (World.block_lt_of_cell? w _ hw252_2)).trans hw252_2), ((HB.out.cell (World.block_lt_of_cell? w _ hw252_3)).trans hw252_3), ((HB.out.cell (World.block_lt_of_cell? w _ hw252_4)).trans hw252_4), ((HB.out.cell (World.block_lt_of_cell? w _ hw252_5)).trans hw252_5), ((HB.out.cell (World.block_lt_of_cell? w _ hw252_6)).trans hw252_6), ((HB.out.cell (World.block_lt_of_cell? w _ hw252_7)).trans hw252_7), ((HB.out.cell (World.block_lt_of_cell? w _ hw253_0)).trans hw253_0), ((HB.out.cell (World.block_lt_of_cell? w _ hw253_1)).trans hw253_1), ((HB.out.cell (World.block_lt_of_cell? w _ hw253_2)).trans hw253_2), ((HB.out.cell (World.block_lt_of_cell? w _ hw253_3)).trans hw253_3), ((HB.out.cell (World.block_lt_of_cell? w _ hw253_4)).trans hw253_4), ((HB.out.cell (World.block_lt_of_cell? w _ hw253_5)).trans hw253_5), ((HB.out.cell (World.block_lt_of_cell? w _ hw253_6)).trans hw253_6), ((HB.out.cell (World.block_lt_of_cell? w _ hw253_7)).trans hw253_7)⟩ (fun hHeld => ?_); refine with_tabW laws_eqSpanS.tab6 laws_eqSpanS.bits6 (fun HT_ HW_ => ?_)
                generalize wr.drew = w9 at HB HR252_3 HR252_7 HR253_3 HR253_7 hx252_0 hx252_1 hx252_2 hx252_3 hx252_4 hx252_5 hx252_6 hx252_7 hx253_0 hx253_1 hx253_2 hx253_3 hx253_4 hx253_5 hx253_6 hx253_7 hHeld ⊢
                refine pure_ (i := 0) (N := some 17) (v := ?_) (a' := ?_) #[true, false, false, false, false, false, false, false, false, false] rfl rfl (any_of HT_.out (by kernel_rfl)) (fun _ _ _ h => h) (Or.inl ⟨by rfl, ?_⟩) ?_ ?_
                rotate_left
                · intro w'
                  go_simp
                  with_reducible rfl
                rotate_left
                · simp only [Act.put, List.setIfInBounds_toArray, List.set_cons_zero, List.set_cons_succ, i64_w, i32_w]
                  rfl
                refine pure_ (i := 1) (N := some 18) (v := ?_) (a' := ?_) #[true, true, false, false, false, false, false, false, false, false] rfl rfl (any_of HT_.out (by kernel_rfl)) (fun _ _ _ h => h) (Or.inl ⟨by rfl, ?_⟩) ?_ ?_
                rotate_left
                · intro w'
                  go_simp
                  with_reducible rfl
                rotate_left
                · simp only [Act.put, List.setIfInBounds_toArray, List.set_cons_zero, List.set_cons_succ, i64_w, i32_w]
                  rfl
                refine pure_ (i := 2) (N := some 19) (v := ?_) (a' := ?_) #[true, true, true, false, false, false, false, false, false, false] rfl rfl (any_of HT_.out (by kernel_rfl)) (fun _ _ _ h => h) (Or.inl ⟨by rfl, ?_⟩) ?_ ?_
                rotate_left
                · intro w'
                  go_simp
                  with_reducible rfl
                rotate_left
                · simp only [Act.put, List.setIfInBounds_toArray, List.set_cons_zero, List.set_cons_succ, i64_w, i32_w]
                  rfl
                refine pure_ (i := 4) (N := some 21) (v := ?_) (a' := ?_) #[true, true, true, false, true, false, false, false, false, false] rfl rfl (any_of HT_.out (by kernel_rfl)) (fun _ _ _ h => h) (Or.inl ⟨by rfl, ?_⟩) ?_ ?_
                rotate_left
                · intro w'
                  go_simp
                  with_reducible rfl
                rotate_left
                · simp only [Act.put, List.setIfInBounds_toArray, List.set_cons_zero, List.set_cons_succ, i64_w, i32_w]
                  rfl
                refine pure_ (i := 5) (N := some 22) (v := ?_) (a' := ?_) #[true, true, true, false, true, true, false, false, false, false] rfl rfl (any_of HT_.out (by kernel_rfl)) (fun _ _ _ h => h) (Or.inl ⟨by rfl, ?_⟩) ?_ ?_
                rotate_left
                · intro w'
                  go_simp
                  with_reducible rfl
                rotate_left
                · simp only [Act.put, List.setIfInBounds_toArray, List.set_cons_zero, List.set_cons_succ, i64_w, i32_w]
                  rfl
                refine pure_ (i := 6) (N := some 23) (v := ?_) (a' := ?_) #[true, true, true, false, true, true, true, false, false, false] rfl rfl (any_of HT_.out (by kernel_rfl)) (fun _ _ _ h => h) (Or.inl ⟨by rfl, ?_⟩) ?_ ?_
                rotate_left
                · intro w'
                  go_simp
                  with_reducible rfl
                rotate_left
                · simp only [Act.put, List.setIfInBounds_toArray, List.set_cons_zero, List.set_cons_succ, i64_w, i32_w]
                  rfl
                refine take_ (i := 3) (N := some 20) (v := ?_) (a' := ?_) #[true, true, true, true, true, true, true, false, false, false] rfl rfl (take_ofW HT_.out HW_.out (by kernel_rfl)) (fun _ _ _ h => h) (Or.inl ⟨by rfl, ?_⟩) hHeld ?_ ?_
                rotate_left
                · rintro w' ⟨s0, s1, s2, s3, s4, s5, s6, s7, s8, s9, s10, s11, s12, s13, s14, s15⟩
                  go_simp
                  with_reducible rfl
                rotate_left
                · simp only [Act.put, List.setIfInBounds_toArray, List.set_cons_zero, List.set_cons_succ, i64_w, i32_w]
                  rfl
                refine take_ (i := 7) (N := some 24) (v := ?_) (a' := ?_) #[true, true, true, true, true, true, true, true, false, false] rfl rfl (take_ofW HT_.out HW_.out (by kernel_rfl)) (fun _ _ _ h => h) (Or.inl ⟨by rfl, ?_⟩) hHeld ?_ ?_
                rotate_left
                · rintro w' ⟨s0, s1, s2, s3, s4, s5, s6, s7, s8, s9, s10, s11, s12, s13, s14, s15⟩
                  go_simp
                  with_reducible rfl
                rotate_left
                · simp only [Act.put, List.setIfInBounds_toArray, List.set_cons_zero, List.set_cons_succ, i64_w, i32_w]
                  rfl
                refine one_ (i := 8) (N := some 25) #[true, true, true, true, true, true, true, true, true, false] rfl rfl (one_of HT_.out (by kernel_rfl)) (by decide) (fun K hK => ?_)
                refine goes_ Try.func24 (by kernel_rfl) rfl #[.agg #[.int .i64 ((rd_T38 l0 x5_1).f0.f0), .int .i64 ((rd_T38 l0 x5_1).f0.f1), .float .f64 ((rd_T38 l0 x5_1).f0.f2), .slice A252_3 ((rd_T38 l0 x5_1).f0.f3).length c252_3, .int .i64 ((rd_T38 l0 x5_1).f1.f0), .int .i64 ((rd_T38 l0 x5_1).f1.f1), .float .f64 ((rd_T38 l0 x5_1).f1.f2), .slice A252_7 ((rd_T38 l0 x5_1).f1.f3).length c252_7], .agg #[.int .i64 ((rd_T38 l1 x5_1).f0.f0), .int .i64 ((rd_T38 l1 x5_1).f0.f1), .float .f64 ((rd_T38 l1 x5_1).f0.f2), .slice A253_3 ((rd_T38 l1 x5_1).f0.f3).length c253_3, .int .i64 ((rd_T38 l1 x5_1).f1.f0), .int .i64 ((rd_T38 l1 x5_1).f1.f1), .float .f64 ((rd_T38 l1 x5_1).f1.f2), .slice A253_7 ((rd_T38 l1 x5_1).f1.f3).length c253_7]] (by rfl) rfl rfl (by (try simp only [List.map_toArray, List.map_cons, List.map_nil]); first | done | rfl | (simp only [List.length_drop, List.length_take]; rfl)) ?_
                with_reducible refine (laws_eqSpan.calls k1 ((rd_T38 l0 x5_1).f0.f0) ((rd_T38 l0 x5_1).f0.f1) ((rd_T38 l0 x5_1).f0.f2) _ _ ((rd_T38 l0 x5_1).f0.f3) ((rd_T38 l0 x5_1).f1.f0) ((rd_T38 l0 x5_1).f1.f1) ((rd_T38 l0 x5_1).f1.f2) _ _ ((rd_T38 l0 x5_1).f1.f3) ((rd_T38 l1 x5_1).f0.f0) ((rd_T38 l1 x5_1).f0.f1) ((rd_T38 l1 x5_1).f0.f2) _ _ ((rd_T38 l1 x5_1).f0.f3) ((rd_T38 l1 x5_1).f1.f0) ((rd_T38 l1 x5_1).f1.f1) ((rd_T38 l1 x5_1).f1.f2) _ _ ((rd_T38 l1 x5_1).f1.f3) true _ ?side1 ?side2 ?side3 ?side4 ?side5 ?side6 ?side7 ?side8 A7.out rfl).mono ?_
                (case side1 => repeat (first | exact (Kd.C_below HR252_3.out HB.out) | (with_reducible refine Kd.C_alloc ?_ _) | (with_reducible refine Kd.C_drewN ?_ _) | (with_reducible refine Kd.C_drew ?_)))
                (case side2 => exact HC252_3.out)
                (case side3 => repeat (first | exact (Kd.C_below HR252_7.out HB.out) | (with_reducible refine Kd.C_alloc ?_ _) | (with_reducible refine Kd.C_drewN ?_ _) | (with_reducible refine Kd.C_drew ?_)))
                (case side4 => exact HC252_7.out)
                (case side5 => repeat (first | exact (Kd.C_below HR253_3.out HB.out) | (with_reducible refine Kd.C_alloc ?_ _) | (with_reducible refine Kd.C_drewN ?_ _) | (with_reducible refine Kd.C_drew ?_)))
                (case side6 => exact HC253_3.out)
                (case side7 => repeat (first | exact (Kd.C_below HR253_7.out HB.out) | (with_reducible refine Kd.C_alloc ?_ _) | (with_reducible refine Kd.C_drewN ?_ _) | (with_reducible refine Kd.C_drew ?_)))
                (case side8 => exact HC253_7.out)
                rintro e w10 ⟨rfl, hb⟩
                refine ⟨_, rfl, ?_⟩
                have n0_ := Aside0.mk (below_step (by repeat (first | (with_reducible first | exact HB.out | apply below_alloc | apply pw_below_drewN | apply below_drew1) | exact HB.out)) hb)
                clear HB
                have HB := n0_
                clear n0_
                (try clear hb)
                (try clear hb2)
                (try clear hk)
                (try clear hi)
                refine hK.out _ _ ⟨((HB.out.cell (World.block_lt_of_cell? w _ hw252_0)).trans hw252_0), ((HB.out.cell (World.block_lt_of_cell? w _ hw252_1)).trans hw252_1), ((HB.out.cell (World.block_lt_of_cell? w _ hw252_2)).trans hw252_2), ((HB.out.cell (World.block_lt_of_cell? w _ hw252_3)).trans hw252_3), ((HB.out.cell (World.block_lt_of_cell? w _ hw252_4)).trans hw252_4), ((HB.out.cell (World.block_lt_of_cell? w _ hw252_5)).trans hw252_5), ((HB.out.cell (World.block_lt_of_cell? w _ hw252_6)).trans hw252_6), ((HB.out.cell (World.block_lt_of_cell? w _ hw252_7)).trans hw252_7), ((HB.out.cell (World.block_lt_of_cell? w _ hw253_0)).trans hw253_0), ((HB.out.cell (World.block_lt_of_cell? w _ hw253_1)).trans hw253_1), ((HB.out.cell (World.block_lt_of_cell? w _ hw253_2)).trans hw253_2), ((HB.out.cell (World.block_lt_of_cell? w _ hw253_3)).trans hw253_3), ((HB.out.cell (World.block_lt_of_cell? w _ hw253_4)).trans hw253_4), ((HB.out.cell (World.block_lt_of_cell? w _ hw253_5)).trans hw253_5), ((HB.out.cell (World.block_lt_of_cell? w _ hw253_6)).trans hw253_6), ((HB.out.cell (World.block_lt_of_cell? w _ hw253_7)).trans hw253_7)⟩ (fun hHeld => ?_)
                clear hK K
                refine norm_ (a' := ?_) ?_ ?_
                rotate_left
                · show Act.put _ (some 25) _ = _
                  simp only [Act.put, List.setIfInBounds_toArray, List.set_cons_zero, List.set_cons_succ, i64_w, i32_w]
                  rfl
                refine pure_ (i := 9) (N := some 26) (v := ?_) (a' := ?_) #[true, true, true, true, true, true, true, true, true, true] rfl rfl (any_of HT_.out (by kernel_rfl)) (fun _ _ _ h => h) (Or.inl ⟨by rfl, ?_⟩) ?_ ?_
                rotate_left
                · intro w'
                  go_simp
                  with_reducible rfl
                rotate_left
                · simp only [Act.put, List.setIfInBounds_toArray, List.set_cons_zero, List.set_cons_succ, i64_w, i32_w]
                  rfl
                refine done_ (done_of HT_.out (by kernel_rfl)) ?_
                try go_wp2
                go_roundg k1
                case measure => have := HK1.out; omega
                case rel => exact ⟨(wrap64 (x5_1 + 1)), (by first | rfl | (simp; done) | (simp [*]; done)), H', ⟨by have := HK1.out; omega⟩, ⟨by repeat (first | (with_reducible first | exact HB.out | apply below_alloc | apply pw_below_drewN | apply below_drew1) | exact HB.out)⟩⟩
              · replace c8 := Bool.eq_false_iff.mpr c8
                subst c8
                have H1 : (some false) = some r := by rw [if_neg (show ¬ (false = true) by decide)] at H; exact H
                clear H
                have H := H1
                clear H1
                exact absurd (Option.some.inj H) (by rw [hrt]; decide)
            · rw [if_neg c6] at H
              exact absurd H (by simp)
          · rw [if_neg c5] at H
            exact absurd H (by simp)
        · rw [if_neg c4] at H
          have c4b0 : decide (x5_1 < (l0.length : Int)) = false := decide_eq_false c4
          clear c4
          obtain rfl := Option.some.inj H
          go_wp2
          go_ret
          exact ⟨by first | rfl | (simp [errW_none, errW_some] <;> rfl) | (simp [*, errW_none, errW_some] <;> rfl), by repeat (first | (with_reducible first | exact HB.out | apply below_alloc | apply pw_below_drewN | apply below_drew1) | exact HB.out)⟩
  · rw [if_neg c3] at H
    have c3b0 : ((l0.length : Int) == (l1.length : Int)) = false := beq_eq_false_iff_ne.mpr c3
    have c3b1 : ((l0.length : Int) != (l1.length : Int)) = true := bne_iff_ne.mpr c3
    have c3b2 : (l0.length == l1.length) = false := by first | simpa using c3 | (simp at c3 ⊢; omega)
    exact absurd (Option.some.inj H) (by rw [hrt]; decide)

/-! ### laws_eqItemS: function 90 -/
def laws_eqItemS.l0 : Nat → List (S27) → List (S27) → Int → Option (Bool)
  | 0, _, _, _ => none
  | k + 1, x0, x1, x5 => if x5 < (x0.length : Int) then (if 0 ≤ x5 then (if x5 < (x1.length : Int) then ((laws_eqItem.f k ((rd_T27 x0 x5).f0) ((rd_T27 x0 x5).f1) ((rd_T27 x0 x5).f2) ((rd_T27 x0 x5).f3) ((rd_T27 x1 x5).f0) ((rd_T27 x1 x5).f1) ((rd_T27 x1 x5).f2) ((rd_T27 x1 x5).f3)).bind fun t257 => (if t257 = true then (laws_eqItemS.l0 k x0 x1 (wrap64 (x5 + 1))) else (some false))) else (none)) else (none)) else (some true)
def laws_eqItemS.f (k : Nat) (l0 : List (S27)) (l1 : List (S27)) : Option (Bool) := if (l0.length : Int) = (l1.length : Int) then (laws_eqItemS.l0 k l0 l1 0) else (some false)
theorem laws_eqItemS.mono_l : ∀ k, (∀ y0 y1 y2, LeO (laws_eqItemS.l0 k y0 y1 y2) (laws_eqItemS.l0 (k + 1) y0 y1 y2))
  | 0 => fun _ _ _ r h => by simp [laws_eqItemS.l0] at h
  | k + 1 => by
    have ih0 := laws_eqItemS.mono_l k
    · intro y0 y1 y2
      unfold laws_eqItemS.l0
      repeat' first
      | (with_reducible exact ih0 _ _ _)
      | (with_reducible exact laws_eqItem.mono _ _ _ _ _ _ _ _ _)
      | (with_reducible exact LeO.refl _)
      | (with_reducible exact LeO.none _)
      | (with_reducible refine LeO.ite ?_ ?_)
      | (with_reducible refine LeO.bind ?_ (fun _ => ?_))
      | exact ih0 _ _ _
      | exact laws_eqItem.mono _ _ _ _ _ _ _ _ _
      | exact LeO.none _
      | refine LeO.ite ?_ ?_
      | refine LeO.bind ?_ (fun _ => ?_)
theorem laws_eqItemS.mono : ∀ a0 a1 k, LeO (laws_eqItemS.f k a0 a1) (laws_eqItemS.f (k + 1) a0 a1) := by
  intro a0 a1 k
  have ih0 := laws_eqItemS.mono_l k
  unfold laws_eqItemS.f
  repeat' first
      | (with_reducible exact ih0 _ _ _)
      | (with_reducible exact laws_eqItem.mono _ _ _ _ _ _ _ _ _)
      | (with_reducible exact LeO.refl _)
      | (with_reducible exact LeO.none _)
      | (with_reducible refine LeO.ite ?_ ?_)
      | (with_reducible refine LeO.bind ?_ (fun _ => ?_))
      | exact ih0 _ _ _
      | exact laws_eqItem.mono _ _ _ _ _ _ _ _ _
      | exact LeO.none _
      | refine LeO.ite ?_ ?_
      | refine LeO.bind ?_ (fun _ => ?_)
def laws_eqItemS.T6 : Bool × List (List Nat × List Nat) := (true, [([], []), ([], []), ([0, 1], [0, 1]), ([2], [2]), ([], []), ([], []), ([4, 5], [4, 5]), ([6], [6]), ([3, 7], [3, 7]), ([8], [8])])
def laws_eqItemS.B6 : List Nat := [0, 0, 3, 7, 0, 0, 48, 112, 255, 511]
theorem laws_eqItemS.tab6 : rtab .any (opsOf Try.f90 6) = laws_eqItemS.T6 := by kernel_rfl
theorem laws_eqItemS.bits6 : waitsOk laws_eqItemS.T6.2 laws_eqItemS.B6 = true := by kernel_rfl
set_option maxHeartbeats 8000000 in
set_option maxRecDepth 100000 in
theorem laws_eqItemS.calls (k : Nat) (A0 : Option Addr) (c0 : Nat) (l0 : List (S27)) (A1 : Option Addr) (c1 : Nat) (l1 : List (S27)) (r : Bool) (w : World) (hr0 : Kd.C k27 w A0 l0.length l0) (hc0 : l0.length ≤ c0) (hr1 : Kd.C k27 w A1 l1.length l1) (hc1 : l1.length ≤ c1) (h : laws_eqItemS.f k l0 l1 = some r) (hrt : r = true) :
    Calls Try.prog 90 #[.slice A0 l0.length c0, .slice A1 l1.length c1] w fun e w' => e = .returned (.bool r) ∧ Below w.heap.size w w' := by
  have hu27 := Try.underlying27
  have HR0 := Aside0.mk hr0
  have HC0 := Aside0.mk hc0
  clear hr0 hc0
  have HR1 := Aside0.mk hr1
  have HC1 := Aside0.mk hc1
  clear hr1 hc1
  have HB := Aside0.mk (Below.refl w.heap.size w)
  have H : (if (l0.length : Int) = (l1.length : Int) then (laws_eqItemS.l0 k l0 l1 0) else (some false)) = some r := h
  clear h
  by_cases c3 : (l0.length : Int) = (l1.length : Int)
  · rw [if_pos c3] at H
    have c3b0 : ((l0.length : Int) == (l1.length : Int)) = true := beq_iff_eq.mpr c3
    have c3b1 : ((l0.length : Int) != (l1.length : Int)) = false := bne_eq_false_iff_eq.mpr c3
    have c3b2 : (l0.length == l1.length) = true := by first | simpa using c3 | (simp at c3 ⊢; omega)
    clear c3
    have H' := Aside0.mk H
    clear H
    go_enter Try.func90, Try.ntmps90
    go_wp2
    go_loopg [5] k (fun kq v5 w' => ∃ (x5_1 : Int), v5 = .int .i64 x5_1 ∧ Aside0 (laws_eqItemS.l0 kq l0 l1 x5_1 = some r) ∧ Aside0 (kq ≤ k) ∧ Aside0 (Below w.heap.size w w'))
    case atStart => exact ⟨(0), (by first | rfl | (simp; done) | (simp [*]; done)), H', ⟨Nat.le_refl _⟩, ⟨by repeat (first | (with_reducible first | exact HB.out | apply below_alloc | apply pw_below_drewN | apply below_drew1) | exact HB.out)⟩⟩
    case round =>
      clear H'
      try clear c1
      try clear p2
      try clear c3
      try clear c3b0
      try clear c3b1
      try clear c3b2
      obtain ⟨x5_1, rfl, HA, HK1, HB⟩ := hrel
      cases gk with
      | zero => exact absurd HA.out (by simp [laws_eqItemS.l0])
      | succ k1 =>
        have H := HA.out
        clear HA
        simp only [laws_eqItemS.l0] at H
        by_cases c4 : x5_1 < (l0.length : Int)
        · rw [if_pos c4] at H
          have c4b0 : decide (x5_1 < (l0.length : Int)) = true := decide_eq_true c4
          clear c4
          by_cases c5 : 0 ≤ x5_1
          · rw [if_pos c5] at H
            have c5b0 : decide (0 ≤ x5_1) = true := decide_eq_true c5
            clear c5
            by_cases c6 : x5_1 < (l1.length : Int)
            · rw [if_pos c6] at H
              have c6b0 : decide (x5_1 < (l1.length : Int)) = true := decide_eq_true c6
              clear c6
              replace H := Option.bind_eq_some_iff.mp H
              obtain ⟨t257, A70, H⟩ := H
              replace H : (if t257 = true then (laws_eqItemS.l0 k1 l0 l1 (wrap64 (x5_1 + 1))) else (some false)) = some r := H
              have A7 := Aside0.mk A70
              clear A70
              by_cases c8 : t257 = true
              · subst c8
                have H1 : (laws_eqItemS.l0 k1 l0 l1 (wrap64 (x5_1 + 1))) = some r := by rw [if_pos rfl] at H; exact H
                clear H
                have H := H1
                clear H1
                have H' := Aside0.mk H
                clear H
                try go_wp2
                have n0_ := Aside0.mk (below_drew1 HB.out)
                clear HB
                have HB := n0_
                clear n0_
                have p255 : 0 ≤ (x5_1 : Int) := of_decide_eq_true (by first | (with_reducible assumption) | assumption)
                have q255 : x5_1 < (l0.length : Int) := of_decide_eq_true (by first | (with_reducible assumption) | assumption)
                obtain ⟨ad255, A255_3, c255_3, e255, hx255_0, hx255_1, hx255_2, hx255_3, hl255_3, hi255_3⟩ := at_T27 HR0.out x5_1 p255 q255
                have hw255_3 := hx255_3
                have hw255_2 := hx255_2
                have hw255_1 := hx255_1
                have hw255_0 := hx255_0
                cases e255
                replace hx255_0 := (HB.out.cell (World.block_lt_of_cell? w _ hx255_0)).trans hx255_0
                replace hx255_1 := (HB.out.cell (World.block_lt_of_cell? w _ hx255_1)).trans hx255_1
                replace hx255_2 := (HB.out.cell (World.block_lt_of_cell? w _ hx255_2)).trans hx255_2
                replace hx255_3 := (HB.out.cell (World.block_lt_of_cell? w _ hx255_3)).trans hx255_3
                have HR255_3 := Aside0.mk hi255_3
                have HC255_3 := Aside0.mk hl255_3
                clear hi255_3 hl255_3
                replace p255 := eq_true p255
                replace q255 := eq_true q255
                have p256 : 0 ≤ (x5_1 : Int) := of_decide_eq_true (by first | (with_reducible assumption) | assumption)
                have q256 : x5_1 < (l1.length : Int) := of_decide_eq_true (by first | (with_reducible assumption) | assumption)
                obtain ⟨ad256, A256_3, c256_3, e256, hx256_0, hx256_1, hx256_2, hx256_3, hl256_3, hi256_3⟩ := at_T27 HR1.out x5_1 p256 q256
                have hw256_3 := hx256_3
                have hw256_2 := hx256_2
                have hw256_1 := hx256_1
                have hw256_0 := hx256_0
                cases e256
                replace hx256_0 := (HB.out.cell (World.block_lt_of_cell? w _ hx256_0)).trans hx256_0
                replace hx256_1 := (HB.out.cell (World.block_lt_of_cell? w _ hx256_1)).trans hx256_1
                replace hx256_2 := (HB.out.cell (World.block_lt_of_cell? w _ hx256_2)).trans hx256_2
                replace hx256_3 := (HB.out.cell (World.block_lt_of_cell? w _ hx256_3)).trans hx256_3
                have HR256_3 := Aside0.mk hi256_3
                have HC256_3 := Aside0.mk hl256_3
                clear hi256_3 hl256_3
                replace p256 := eq_true p256
                replace q256 := eq_true q256
                refine start_ (n := 10) (S := fun w' => w'.cell? (ad255.add ((x5_1).toNat * 4)) = some (.int .i64 ((rd_T27 l0 x5_1).f0)) ∧ w'.cell? ⟨(ad255.add ((x5_1).toNat * 4)).block, (ad255.add ((x5_1).toNat * 4)).off + 1, none⟩ = some (.int .i64 ((rd_T27 l0 x5_1).f1)) ∧ w'.cell? ⟨(ad255.add ((x5_1).toNat * 4)).block, (ad255.add ((x5_1).toNat * 4)).off + 2, none⟩ = some (.float .f64 ((rd_T27 l0 x5_1).f2)) ∧ w'.cell? ⟨(ad255.add ((x5_1).toNat * 4)).block, (ad255.add ((x5_1).toNat * 4)).off + 3, none⟩ = some (.slice A255_3 ((rd_T27 l0 x5_1).f3).length c255_3) ∧ w'.cell? (ad256.add ((x5_1).toNat * 4)) = some (.int .i64 ((rd_T27 l1 x5_1).f0)) ∧ w'.cell? ⟨(ad256.add ((x5_1).toNat * 4)).block, (ad256.add ((x5_1).toNat * 4)).off + 1, none⟩ = some (.int .i64 ((rd_T27 l1 x5_1).f1)) ∧ w'.cell? ⟨(ad256.add ((x5_1).toNat * 4)).block, (ad256.add ((x5_1).toNat * 4)).off + 2, none⟩ = some (.float .f64 ((rd_T27 l1 x5_1).f2)) ∧ w'.cell? ⟨(ad256.add ((x5_1).toNat * 4)).block, (ad256.add ((x5_1).toNat * 4)).off + 3, none⟩ = some (.slice A256_3 ((rd_T27 l1 x5_1).f3).length c256_3)) (ds := []) #[false, false, false, false, false, false, false, false, false, false] (by kernel_rfl) rfl rfl ⟨((HB.out.cell (World.block_lt_of_cell? w _ hw255_0)).trans hw255_0), ((HB.out.cell (World.block_lt_of_cell? w _ hw255_1)).trans hw255_1), ((HB.out.cell (World.block_lt_of_cell? w _ hw255_2)).trans hw255_2), ((HB.out.cell (World.block_lt_of_cell? w _ hw255_3)).trans hw255_3), ((HB.out.cell (World.block_lt_of_cell? w _ hw256_0)).trans hw256_0), ((HB.out.cell (World.block_lt_of_cell? w _ hw256_1)).trans hw256_1), ((HB.out.cell (World.block_lt_of_cell? w _ hw256_2)).trans hw256_2), ((HB.out.cell (World.block_lt_of_cell? w _ hw256_3)).trans hw256_3)⟩ (fun hHeld => ?_); refine with_tabW laws_eqItemS.tab6 laws_eqItemS.bits6 (fun HT_ HW_ => ?_)
                generalize wr.drew = w9 at HB HR255_3 HR256_3 hx255_0 hx255_1 hx255_2 hx255_3 hx256_0 hx256_1 hx256_2 hx256_3 hHeld ⊢
                refine pure_ (i := 0) (N := some 17) (v := ?_) (a' := ?_) #[true, false, false, false, false, false, false, false, false, false] rfl rfl (any_of HT_.out (by kernel_rfl)) (fun _ _ _ h => h) (Or.inl ⟨by rfl, ?_⟩) ?_ ?_
                rotate_left
                · intro w'
                  go_simp
                  with_reducible rfl
                rotate_left
                · simp only [Act.put, List.setIfInBounds_toArray, List.set_cons_zero, List.set_cons_succ, i64_w, i32_w]
                  rfl
                refine pure_ (i := 1) (N := some 18) (v := ?_) (a' := ?_) #[true, true, false, false, false, false, false, false, false, false] rfl rfl (any_of HT_.out (by kernel_rfl)) (fun _ _ _ h => h) (Or.inl ⟨by rfl, ?_⟩) ?_ ?_
                rotate_left
                · intro w'
                  go_simp
                  with_reducible rfl
                rotate_left
                · simp only [Act.put, List.setIfInBounds_toArray, List.set_cons_zero, List.set_cons_succ, i64_w, i32_w]
                  rfl
                refine pure_ (i := 2) (N := some 19) (v := ?_) (a' := ?_) #[true, true, true, false, false, false, false, false, false, false] rfl rfl (any_of HT_.out (by kernel_rfl)) (fun _ _ _ h => h) (Or.inl ⟨by rfl, ?_⟩) ?_ ?_
                rotate_left
                · intro w'
                  go_simp
                  with_reducible rfl
                rotate_left
                · simp only [Act.put, List.setIfInBounds_toArray, List.set_cons_zero, List.set_cons_succ, i64_w, i32_w]
                  rfl
                refine pure_ (i := 4) (N := some 21) (v := ?_) (a' := ?_) #[true, true, true, false, true, false, false, false, false, false] rfl rfl (any_of HT_.out (by kernel_rfl)) (fun _ _ _ h => h) (Or.inl ⟨by rfl, ?_⟩) ?_ ?_
                rotate_left
                · intro w'
                  go_simp
                  with_reducible rfl
                rotate_left
                · simp only [Act.put, List.setIfInBounds_toArray, List.set_cons_zero, List.set_cons_succ, i64_w, i32_w]
                  rfl
                refine pure_ (i := 5) (N := some 22) (v := ?_) (a' := ?_) #[true, true, true, false, true, true, false, false, false, false] rfl rfl (any_of HT_.out (by kernel_rfl)) (fun _ _ _ h => h) (Or.inl ⟨by rfl, ?_⟩) ?_ ?_
                rotate_left
                · intro w'
                  go_simp
                  with_reducible rfl
                rotate_left
                · simp only [Act.put, List.setIfInBounds_toArray, List.set_cons_zero, List.set_cons_succ, i64_w, i32_w]
                  rfl
                refine pure_ (i := 6) (N := some 23) (v := ?_) (a' := ?_) #[true, true, true, false, true, true, true, false, false, false] rfl rfl (any_of HT_.out (by kernel_rfl)) (fun _ _ _ h => h) (Or.inl ⟨by rfl, ?_⟩) ?_ ?_
                rotate_left
                · intro w'
                  go_simp
                  with_reducible rfl
                rotate_left
                · simp only [Act.put, List.setIfInBounds_toArray, List.set_cons_zero, List.set_cons_succ, i64_w, i32_w]
                  rfl
                refine take_ (i := 3) (N := some 20) (v := ?_) (a' := ?_) #[true, true, true, true, true, true, true, false, false, false] rfl rfl (take_ofW HT_.out HW_.out (by kernel_rfl)) (fun _ _ _ h => h) (Or.inl ⟨by rfl, ?_⟩) hHeld ?_ ?_
                rotate_left
                · rintro w' ⟨s0, s1, s2, s3, s4, s5, s6, s7⟩
                  go_simp
                  with_reducible rfl
                rotate_left
                · simp only [Act.put, List.setIfInBounds_toArray, List.set_cons_zero, List.set_cons_succ, i64_w, i32_w]
                  rfl
                refine take_ (i := 7) (N := some 24) (v := ?_) (a' := ?_) #[true, true, true, true, true, true, true, true, false, false] rfl rfl (take_ofW HT_.out HW_.out (by kernel_rfl)) (fun _ _ _ h => h) (Or.inl ⟨by rfl, ?_⟩) hHeld ?_ ?_
                rotate_left
                · rintro w' ⟨s0, s1, s2, s3, s4, s5, s6, s7⟩
                  go_simp
                  with_reducible rfl
                rotate_left
                · simp only [Act.put, List.setIfInBounds_toArray, List.set_cons_zero, List.set_cons_succ, i64_w, i32_w]
                  rfl
                refine one_ (i := 8) (N := some 25) #[true, true, true, true, true, true, true, true, true, false] rfl rfl (one_of HT_.out (by kernel_rfl)) (by decide) (fun K hK => ?_)
                refine goes_ Try.func17 (by kernel_rfl) rfl #[.agg #[.int .i64 ((rd_T27 l0 x5_1).f0), .int .i64 ((rd_T27 l0 x5_1).f1), .float .f64 ((rd_T27 l0 x5_1).f2), .slice A255_3 ((rd_T27 l0 x5_1).f3).length c255_3], .agg #[.int .i64 ((rd_T27 l1 x5_1).f0), .int .i64 ((rd_T27 l1 x5_1).f1), .float .f64 ((rd_T27 l1 x5_1).f2), .slice A256_3 ((rd_T27 l1 x5_1).f3).length c256_3]] (by rfl) rfl rfl (by (try simp only [List.map_toArray, List.map_cons, List.map_nil]); first | done | rfl | (simp only [List.length_drop, List.length_take]; rfl)) ?_
                with_reducible refine (laws_eqItem.calls k1 ((rd_T27 l0 x5_1).f0) ((rd_T27 l0 x5_1).f1) ((rd_T27 l0 x5_1).f2) _ _ ((rd_T27 l0 x5_1).f3) ((rd_T27 l1 x5_1).f0) ((rd_T27 l1 x5_1).f1) ((rd_T27 l1 x5_1).f2) _ _ ((rd_T27 l1 x5_1).f3) true _ ?side1 ?side2 ?side3 ?side4 A7.out rfl).mono ?_
                (case side1 => repeat (first | exact (Kd.C_below HR255_3.out HB.out) | (with_reducible refine Kd.C_alloc ?_ _) | (with_reducible refine Kd.C_drewN ?_ _) | (with_reducible refine Kd.C_drew ?_)))
                (case side2 => exact HC255_3.out)
                (case side3 => repeat (first | exact (Kd.C_below HR256_3.out HB.out) | (with_reducible refine Kd.C_alloc ?_ _) | (with_reducible refine Kd.C_drewN ?_ _) | (with_reducible refine Kd.C_drew ?_)))
                (case side4 => exact HC256_3.out)
                rintro e w10 ⟨rfl, hb⟩
                refine ⟨_, rfl, ?_⟩
                have n0_ := Aside0.mk (below_step (by repeat (first | (with_reducible first | exact HB.out | apply below_alloc | apply pw_below_drewN | apply below_drew1) | exact HB.out)) hb)
                clear HB
                have HB := n0_
                clear n0_
                (try clear hb)
                (try clear hb2)
                (try clear hk)
                (try clear hi)
                refine hK.out _ _ ⟨((HB.out.cell (World.block_lt_of_cell? w _ hw255_0)).trans hw255_0), ((HB.out.cell (World.block_lt_of_cell? w _ hw255_1)).trans hw255_1), ((HB.out.cell (World.block_lt_of_cell? w _ hw255_2)).trans hw255_2), ((HB.out.cell (World.block_lt_of_cell? w _ hw255_3)).trans hw255_3), ((HB.out.cell (World.block_lt_of_cell? w _ hw256_0)).trans hw256_0), ((HB.out.cell (World.block_lt_of_cell? w _ hw256_1)).trans hw256_1), ((HB.out.cell (World.block_lt_of_cell? w _ hw256_2)).trans hw256_2), ((HB.out.cell (World.block_lt_of_cell? w _ hw256_3)).trans hw256_3)⟩ (fun hHeld => ?_)
                clear hK K
                refine norm_ (a' := ?_) ?_ ?_
                rotate_left
                · show Act.put _ (some 25) _ = _
                  simp only [Act.put, List.setIfInBounds_toArray, List.set_cons_zero, List.set_cons_succ, i64_w, i32_w]
                  rfl
                refine pure_ (i := 9) (N := some 26) (v := ?_) (a' := ?_) #[true, true, true, true, true, true, true, true, true, true] rfl rfl (any_of HT_.out (by kernel_rfl)) (fun _ _ _ h => h) (Or.inl ⟨by rfl, ?_⟩) ?_ ?_
                rotate_left
                · intro w'
                  go_simp
                  with_reducible rfl
                rotate_left
                · simp only [Act.put, List.setIfInBounds_toArray, List.set_cons_zero, List.set_cons_succ, i64_w, i32_w]
                  rfl
                refine done_ (done_of HT_.out (by kernel_rfl)) ?_
                try go_wp2
                go_roundg k1
                case measure => have := HK1.out; omega
                case rel => exact ⟨(wrap64 (x5_1 + 1)), (by first | rfl | (simp; done) | (simp [*]; done)), H', ⟨by have := HK1.out; omega⟩, ⟨by repeat (first | (with_reducible first | exact HB.out | apply below_alloc | apply pw_below_drewN | apply below_drew1) | exact HB.out)⟩⟩
              · replace c8 := Bool.eq_false_iff.mpr c8
                subst c8
                have H1 : (some false) = some r := by rw [if_neg (show ¬ (false = true) by decide)] at H; exact H
                clear H
                have H := H1
                clear H1
                exact absurd (Option.some.inj H) (by rw [hrt]; decide)
            · rw [if_neg c6] at H
              exact absurd H (by simp)
          · rw [if_neg c5] at H
            exact absurd H (by simp)
        · rw [if_neg c4] at H
          have c4b0 : decide (x5_1 < (l0.length : Int)) = false := decide_eq_false c4
          clear c4
          obtain rfl := Option.some.inj H
          go_wp2
          go_ret
          exact ⟨by first | rfl | (simp [errW_none, errW_some] <;> rfl) | (simp [*, errW_none, errW_some] <;> rfl), by repeat (first | (with_reducible first | exact HB.out | apply below_alloc | apply pw_below_drewN | apply below_drew1) | exact HB.out)⟩
  · rw [if_neg c3] at H
    have c3b0 : ((l0.length : Int) == (l1.length : Int)) = false := beq_eq_false_iff_ne.mpr c3
    have c3b1 : ((l0.length : Int) != (l1.length : Int)) = true := bne_iff_ne.mpr c3
    have c3b2 : (l0.length == l1.length) = false := by first | simpa using c3 | (simp at c3 ⊢; omega)
    exact absurd (Option.some.inj H) (by rw [hrt]; decide)

/-! ### laws_eqTrack: function 34 -/
def laws_eqTrack.f (k : Nat) (a0_0 : Int) (a0_1 : Int) (a0_2 : Int) (a0_3 : Bool) (l0_4 : List (S38)) (l0_5 : List (S27)) (a0_6 : Bool) (a0_7 : Bool) (a1_0 : Int) (a1_1 : Int) (a1_2 : Int) (a1_3 : Bool) (l1_4 : List (S38)) (l1_5 : List (S27)) (a1_6 : Bool) (a1_7 : Bool) : Option (Bool) := if a0_0 = a1_0 then (if a0_1 = a1_1 then (if a0_2 = a1_2 then (if (a0_3 != a1_3) = true then (some false) else ((laws_eqSpanS.f k l0_4 l1_4).bind fun t260 => (if t260 = true then ((laws_eqItemS.f k l0_5 l1_5).bind fun t261 => (if t261 = true then (if (a0_6 != a1_6) = true then (some false) else (if (a0_7 != a1_7) = true then (some false) else (some true))) else (some false))) else (some false)))) else (some false)) else (some false)) else (some false)
theorem laws_eqTrack.mono : ∀ a0 a1 a2 a3 a4 a5 a6 a7 a8 a9 a10 a11 a12 a13 a14 a15 k, LeO (laws_eqTrack.f k a0 a1 a2 a3 a4 a5 a6 a7 a8 a9 a10 a11 a12 a13 a14 a15) (laws_eqTrack.f (k + 1) a0 a1 a2 a3 a4 a5 a6 a7 a8 a9 a10 a11 a12 a13 a14 a15) := by
  intro a0 a1 a2 a3 a4 a5 a6 a7 a8 a9 a10 a11 a12 a13 a14 a15 k
  unfold laws_eqTrack.f
  repeat' first
      | (with_reducible exact laws_eqItemS.mono _ _ _)
      | (with_reducible exact laws_eqSpanS.mono _ _ _)
      | (with_reducible exact LeO.refl _)
      | (with_reducible exact LeO.none _)
      | (with_reducible refine LeO.ite ?_ ?_)
      | (with_reducible refine LeO.bind ?_ (fun _ => ?_))
      | exact laws_eqItemS.mono _ _ _
      | exact laws_eqSpanS.mono _ _ _
      | exact LeO.none _
      | refine LeO.ite ?_ ?_
      | refine LeO.bind ?_ (fun _ => ?_)
set_option maxHeartbeats 8000000 in
set_option maxRecDepth 100000 in
theorem laws_eqTrack.calls (k : Nat) (a0_0 : Int) (a0_1 : Int) (a0_2 : Int) (a0_3 : Bool) (A0_4 : Option Addr) (c0_4 : Nat) (l0_4 : List (S38)) (A0_5 : Option Addr) (c0_5 : Nat) (l0_5 : List (S27)) (a0_6 : Bool) (a0_7 : Bool) (a1_0 : Int) (a1_1 : Int) (a1_2 : Int) (a1_3 : Bool) (A1_4 : Option Addr) (c1_4 : Nat) (l1_4 : List (S38)) (A1_5 : Option Addr) (c1_5 : Nat) (l1_5 : List (S27)) (a1_6 : Bool) (a1_7 : Bool) (r : Bool) (w : World) (hr0_4 : Kd.C k38 w A0_4 l0_4.length l0_4) (hc0_4 : l0_4.length ≤ c0_4) (hr0_5 : Kd.C k27 w A0_5 l0_5.length l0_5) (hc0_5 : l0_5.length ≤ c0_5) (hr1_4 : Kd.C k38 w A1_4 l1_4.length l1_4) (hc1_4 : l1_4.length ≤ c1_4) (hr1_5 : Kd.C k27 w A1_5 l1_5.length l1_5) (hc1_5 : l1_5.length ≤ c1_5) (h : laws_eqTrack.f k a0_0 a0_1 a0_2 a0_3 l0_4 l0_5 a0_6 a0_7 a1_0 a1_1 a1_2 a1_3 l1_4 l1_5 a1_6 a1_7 = some r) (hrt : r = true) :
    Calls Try.prog 34 #[.agg #[.int .i64 a0_0, .int .i64 a0_1, .int .i64 a0_2, .bool a0_3, .slice A0_4 l0_4.length c0_4, .slice A0_5 l0_5.length c0_5, .bool a0_6, .bool a0_7], .agg #[.int .i64 a1_0, .int .i64 a1_1, .int .i64 a1_2, .bool a1_3, .slice A1_4 l1_4.length c1_4, .slice A1_5 l1_5.length c1_5, .bool a1_6, .bool a1_7]] w fun e w' => e = .returned (.bool r) ∧ Below w.heap.size w w' := by
  have hu61 := Try.underlying61
  have HR0_4 := Aside0.mk hr0_4
  have HC0_4 := Aside0.mk hc0_4
  clear hr0_4 hc0_4
  have HR0_5 := Aside0.mk hr0_5
  have HC0_5 := Aside0.mk hc0_5
  clear hr0_5 hc0_5
  have HR1_4 := Aside0.mk hr1_4
  have HC1_4 := Aside0.mk hc1_4
  clear hr1_4 hc1_4
  have HR1_5 := Aside0.mk hr1_5
  have HC1_5 := Aside0.mk hc1_5
  clear hr1_5 hc1_5
  have HB := Aside0.mk (Below.refl w.heap.size w)
  have H : (if a0_0 = a1_0 then (if a0_1 = a1_1 then (if a0_2 = a1_2 then (if (a0_3 != a1_3) = true then (some false) else ((laws_eqSpanS.f k l0_4 l1_4).bind fun t260 => (if t260 = true then ((laws_eqItemS.f k l0_5 l1_5).bind fun t261 => (if t261 = true then (if (a0_6 != a1_6) = true then (some false) else (if (a0_7 != a1_7) = true then (some false) else (some true))) else (some false))) else (some false)))) else (some false)) else (some false)) else (some false)) = some r := h
  clear h
  by_cases c3 : a0_0 = a1_0
  · rw [if_pos c3] at H
    have c3b0 : (a0_0 == a1_0) = true := beq_iff_eq.mpr c3
    have c3b1 : (a0_0 != a1_0) = false := bne_eq_false_iff_eq.mpr c3
    clear c3
    by_cases c4 : a0_1 = a1_1
    · rw [if_pos c4] at H
      have c4b0 : (a0_1 == a1_1) = true := beq_iff_eq.mpr c4
      have c4b1 : (a0_1 != a1_1) = false := bne_eq_false_iff_eq.mpr c4
      clear c4
      by_cases c5 : a0_2 = a1_2
      · rw [if_pos c5] at H
        have c5b0 : (a0_2 == a1_2) = true := beq_iff_eq.mpr c5
        have c5b1 : (a0_2 != a1_2) = false := bne_eq_false_iff_eq.mpr c5
        clear c5
        by_cases c6 : (a0_3 != a1_3) = true
        · rw [if_pos c6] at H
          have c6b0 : (a0_3 != a1_3) = true := c6
          (try (have c6b1 : decide (a0_3 = a1_3) = false := by simpa using c6))
          (try (have c6b2 : (a0_3 == a1_3) = false := by simpa using c6))
          (try (have c6b3 : ¬ (a0_3 = a1_3) := by simpa using c6))
          (try (have c6b4 : (!a0_3 == a1_3) = true := by have h_ := c6; cases a0_3 <;> simp at h_ ⊢ <;> first | done | omega | exact List.length_pos_iff.2 h_ | simp_all))
          clear c6
          exact absurd (Option.some.inj H) (by rw [hrt]; decide)
        · rw [if_neg c6] at H
          have c6b0 : (a0_3 != a1_3) = false := by simpa using c6
          (try (have c6b1 : decide (a0_3 = a1_3) = true := by simpa using c6))
          (try (have c6b2 : (a0_3 == a1_3) = true := by simpa using c6))
          (try (have c6b3 : (!a0_3 == a1_3) = false := by have h_ := c6; cases a0_3 <;> simp at h_ ⊢ <;> first | done | omega | exact List.length_pos_iff.2 h_ | simp_all))
          clear c6
          replace H := Option.bind_eq_some_iff.mp H
          obtain ⟨t260, A70, H⟩ := H
          replace H : (if t260 = true then ((laws_eqItemS.f k l0_5 l1_5).bind fun t261 => (if t261 = true then (if (a0_6 != a1_6) = true then (some false) else (if (a0_7 != a1_7) = true then (some false) else (some true))) else (some false))) else (some false)) = some r := H
          have A7 := Aside0.mk A70
          clear A70
          by_cases c8 : t260 = true
          · subst c8
            have H1 : ((laws_eqItemS.f k l0_5 l1_5).bind fun t261 => (if t261 = true then (if (a0_6 != a1_6) = true then (some false) else (if (a0_7 != a1_7) = true then (some false) else (some true))) else (some false))) = some r := by rw [if_pos rfl] at H; exact H
            clear H
            have H := H1
            clear H1
            replace H := Option.bind_eq_some_iff.mp H
            obtain ⟨t261, A90, H⟩ := H
            replace H : (if t261 = true then (if (a0_6 != a1_6) = true then (some false) else (if (a0_7 != a1_7) = true then (some false) else (some true))) else (some false)) = some r := H
            have A9 := Aside0.mk A90
            clear A90
            by_cases c10 : t261 = true
            · subst c10
              have H1 : (if (a0_6 != a1_6) = true then (some false) else (if (a0_7 != a1_7) = true then (some false) else (some true))) = some r := by rw [if_pos rfl] at H; exact H
              clear H
              have H := H1
              clear H1
              by_cases c11 : (a0_6 != a1_6) = true
              · rw [if_pos c11] at H
                have c11b0 : (a0_6 != a1_6) = true := c11
                (try (have c11b1 : decide (a0_6 = a1_6) = false := by simpa using c11))
                (try (have c11b2 : (a0_6 == a1_6) = false := by simpa using c11))
                (try (have c11b3 : ¬ (a0_6 = a1_6) := by simpa using c11))
                (try (have c11b4 : (!a0_6 == a1_6) = true := by have h_ := c11; cases a0_6 <;> simp at h_ ⊢ <;> first | done | omega | exact List.length_pos_iff.2 h_ | simp_all))
                clear c11
                exact absurd (Option.some.inj H) (by rw [hrt]; decide)
              · rw [if_neg c11] at H
                have c11b0 : (a0_6 != a1_6) = false := by simpa using c11
                (try (have c11b1 : decide (a0_6 = a1_6) = true := by simpa using c11))
                (try (have c11b2 : (a0_6 == a1_6) = true := by simpa using c11))
                (try (have c11b3 : (!a0_6 == a1_6) = false := by have h_ := c11; cases a0_6 <;> simp at h_ ⊢ <;> first | done | omega | exact List.length_pos_iff.2 h_ | simp_all))
                clear c11
                by_cases c12 : (a0_7 != a1_7) = true
                · rw [if_pos c12] at H
                  have c12b0 : (a0_7 != a1_7) = true := c12
                  (try (have c12b1 : decide (a0_7 = a1_7) = false := by simpa using c12))
                  (try (have c12b2 : (a0_7 == a1_7) = false := by simpa using c12))
                  (try (have c12b3 : ¬ (a0_7 = a1_7) := by simpa using c12))
                  (try (have c12b4 : (!a0_7 == a1_7) = true := by have h_ := c12; cases a0_7 <;> simp at h_ ⊢ <;> first | done | omega | exact List.length_pos_iff.2 h_ | simp_all))
                  clear c12
                  exact absurd (Option.some.inj H) (by rw [hrt]; decide)
                · rw [if_neg c12] at H
                  have c12b0 : (a0_7 != a1_7) = false := by simpa using c12
                  (try (have c12b1 : decide (a0_7 = a1_7) = true := by simpa using c12))
                  (try (have c12b2 : (a0_7 == a1_7) = true := by simpa using c12))
                  (try (have c12b3 : (!a0_7 == a1_7) = false := by have h_ := c12; cases a0_7 <;> simp at h_ ⊢ <;> first | done | omega | exact List.length_pos_iff.2 h_ | simp_all))
                  clear c12
                  obtain rfl := Option.some.inj H
                  go_enter Try.func34, Try.ntmps34
                  go_wp2_with (first | ((with_reducible refine gate_dst (N := 2) rfl ?_); refine box_event ?hg (N := 2) ?hd (cs := #[.int .i64 a0_0, .int .i64 a0_1, .int .i64 a0_2, .bool a0_3, .slice A0_4 l0_4.length c0_4, .slice A0_5 l0_5.length c0_5, .bool a0_6, .bool a0_7]) (t := 61) ?hr ?_; (case hd => rfl); (case hg => rfl); (case hr => first | (go_simp; done) | (go_simp; rfl)); intro gb258 hg w13 hbox hb; have n0_ := Aside0.mk (below_step (by repeat (first | (with_reducible first | exact HB.out | apply below_alloc | apply pw_below_drewN | apply below_drew1) | exact HB.out)) hb); have n1_ := Aside0.mk (hbox); have n2_ := Aside0.mk ((by rw [hg]; exact (below_size (by repeat (first | (with_reducible first | exact HB.out | apply below_alloc | apply pw_below_drewN | apply below_drew1) | exact HB.out))) : w.heap.size ≤ gb258)); have n3_ := Aside0.mk ((by rw [hg]; exact (below_size (by repeat (first | (with_reducible first | exact HB.out | apply below_alloc | apply pw_below_drewN | apply below_drew1) | exact HB.out))) : w.heap.size ≤ gb258)); clear HB; have HB := n0_; have BK258 := n1_; have GW258 := n2_; have GE258 := n3_; clear n0_ n1_ n2_ n3_; clear hb hbox hg) | ((with_reducible refine gate_dst (N := 3) rfl ?_); refine box_event ?hg (N := 3) ?hd (cs := #[.int .i64 a1_0, .int .i64 a1_1, .int .i64 a1_2, .bool a1_3, .slice A1_4 l1_4.length c1_4, .slice A1_5 l1_5.length c1_5, .bool a1_6, .bool a1_7]) (t := 61) ?hr ?_; (case hd => rfl); (case hg => rfl); (case hr => first | (go_simp; done) | (go_simp; rfl)); intro gb259 hg w14 hbox hb; have n0_ := Aside0.mk (blk_below (g := gb258) (o := .cells #[.int .i64 a0_0, .int .i64 a0_1, .int .i64 a0_2, .bool a0_3, .slice A0_4 l0_4.length c0_4, .slice A0_5 l0_5.length c0_5, .bool a0_6, .bool a0_7] 61 (0, 0)) (by (with_reducible repeat (first | refine blk_drewN ?_ _ | refine blk_drew ?_ | refine blk_alloc ?_ _)); exact BK258.out) hb); have n1_ := Aside0.mk (below_step (by repeat (first | (with_reducible first | exact HB.out | apply below_alloc | apply pw_below_drewN | apply below_drew1 | refine below_set ?_ GE258.out) | exact HB.out)) hb); have n2_ := Aside0.mk (hbox); have n3_ := Aside0.mk ((by rw [hg]; exact (below_size (by repeat (first | (with_reducible first | exact HB.out | apply below_alloc | apply pw_below_drewN | apply below_drew1 | refine below_set ?_ GE258.out) | exact HB.out))) : w.heap.size ≤ gb259)); have n4_ := Aside0.mk ((by rw [hg]; exact (below_size (by repeat (first | (with_reducible first | exact HB.out | apply below_alloc | apply pw_below_drewN | apply below_drew1 | refine below_set ?_ GE258.out) | exact HB.out))) : w.heap.size ≤ gb259)); have n5_ := Aside0.mk ((by rw [hg]; exact Nat.ne_of_lt (blk_lt (g := gb258) (o := .cells #[.int .i64 a0_0, .int .i64 a0_1, .int .i64 a0_2, .bool a0_3, .slice A0_4 l0_4.length c0_4, .slice A0_5 l0_5.length c0_5, .bool a0_6, .bool a0_7] 61 (0, 0)) (by (with_reducible repeat (first | refine blk_drewN ?_ _ | refine blk_drew ?_ | refine blk_alloc ?_ _)); exact BK258.out)) : gb258 ≠ gb259)); have n6_ := Aside0.mk ((by rw [hg]; exact Nat.ne_of_gt (blk_lt (g := gb258) (o := .cells #[.int .i64 a0_0, .int .i64 a0_1, .int .i64 a0_2, .bool a0_3, .slice A0_4 l0_4.length c0_4, .slice A0_5 l0_5.length c0_5, .bool a0_6, .bool a0_7] 61 (0, 0)) (by (with_reducible repeat (first | refine blk_drewN ?_ _ | refine blk_drew ?_ | refine blk_alloc ?_ _)); exact BK258.out)) : gb259 ≠ gb258)); clear BK258; clear HB; have BK258 := n0_; have HB := n1_; have BK259 := n2_; have GW259 := n3_; have GE259 := n4_; have NB258_259 := n5_; have NB259_258 := n6_; clear n0_ n1_ n2_ n3_ n4_ n5_ n6_; clear hb hbox hg; have hnb15 := NB258_259.out; have hnc15 := NB259_258.out; have hcz16_0 : w14.cell? ⟨gb258, 0, none⟩ = some (.int .i64 a0_0) := (blk_cell BK258.out 0).trans rfl; have hcz16_1 : w14.cell? ⟨gb258, 1, none⟩ = some (.int .i64 a0_1) := (blk_cell BK258.out 1).trans rfl; have hcz16_2 : w14.cell? ⟨gb258, 2, none⟩ = some (.int .i64 a0_2) := (blk_cell BK258.out 2).trans rfl; have hcz16_3 : w14.cell? ⟨gb258, 3, none⟩ = some (.bool a0_3) := (blk_cell BK258.out 3).trans rfl; have hcz16_4 : w14.cell? ⟨gb258, 4, none⟩ = some (.slice A0_4 l0_4.length c0_4) := (blk_cell BK258.out 4).trans rfl; have hcz16_5 : w14.cell? ⟨gb258, 5, none⟩ = some (.slice A0_5 l0_5.length c0_5) := (blk_cell BK258.out 5).trans rfl; have hcz16_6 : w14.cell? ⟨gb258, 6, none⟩ = some (.bool a0_6) := (blk_cell BK258.out 6).trans rfl; have hcz16_7 : w14.cell? ⟨gb258, 7, none⟩ = some (.bool a0_7) := (blk_cell BK258.out 7).trans rfl; have hfz16_0 := blk_frozen BK258.out 0; have hfz16_1 := blk_frozen BK258.out 1; have hfz16_2 := blk_frozen BK258.out 2; have hfz16_3 := blk_frozen BK258.out 3; have hfz16_4 := blk_frozen BK258.out 4; have hfz16_5 := blk_frozen BK258.out 5; have hfz16_6 := blk_frozen BK258.out 6; have hfz16_7 := blk_frozen BK258.out 7; have hcz17_0 : w14.cell? ⟨gb259, 0, none⟩ = some (.int .i64 a1_0) := (blk_cell BK259.out 0).trans rfl; have hcz17_1 : w14.cell? ⟨gb259, 1, none⟩ = some (.int .i64 a1_1) := (blk_cell BK259.out 1).trans rfl; have hcz17_2 : w14.cell? ⟨gb259, 2, none⟩ = some (.int .i64 a1_2) := (blk_cell BK259.out 2).trans rfl; have hcz17_3 : w14.cell? ⟨gb259, 3, none⟩ = some (.bool a1_3) := (blk_cell BK259.out 3).trans rfl; have hcz17_4 : w14.cell? ⟨gb259, 4, none⟩ = some (.slice A1_4 l1_4.length c1_4) := (blk_cell BK259.out 4).trans rfl; have hcz17_5 : w14.cell? ⟨gb259, 5, none⟩ = some (.slice A1_5 l1_5.length c1_5) := (blk_cell BK259.out 5).trans rfl; have hcz17_6 : w14.cell? ⟨gb259, 6, none⟩ = some (.bool a1_6) := (blk_cell BK259.out 6).trans rfl; have hcz17_7 : w14.cell? ⟨gb259, 7, none⟩ = some (.bool a1_7) := (blk_cell BK259.out 7).trans rfl; have hfz17_0 := blk_frozen BK259.out 0; have hfz17_1 := blk_frozen BK259.out 1; have hfz17_2 := blk_frozen BK259.out 2; have hfz17_3 := blk_frozen BK259.out 3; have hfz17_4 := blk_frozen BK259.out 4; have hfz17_5 := blk_frozen BK259.out 5; have hfz17_6 := blk_frozen BK259.out 6; have hfz17_7 := blk_frozen BK259.out 7) | ((with_reducible refine gate_callee (f := 89) rfl ?_); refine goesL_ (some 29) rfl rfl Try.func89 (by kernel_rfl) rfl #[.slice A0_4 l0_4.length c0_4, .slice A1_4 l1_4.length c1_4] rfl (by (try simp only [List.map_toArray, List.map_cons, List.map_nil]); first | done | rfl | (simp only [List.length_drop, List.length_take]; rfl)) ?_; (with_reducible refine (laws_eqSpanS.calls k _ _ l0_4 _ _ l1_4 true _ ?side1 ?side2 ?side3 ?side4 A7.out rfl).mono ?_); (case side1 => repeat (first | exact (Kd.C_below HR0_4.out HB.out) | (with_reducible refine Kd.C_alloc ?_ _) | (with_reducible refine Kd.C_drewN ?_ _) | (with_reducible refine Kd.C_drew ?_))); (case side2 => exact HC0_4.out); (case side3 => repeat (first | exact (Kd.C_below HR1_4.out HB.out) | (with_reducible refine Kd.C_alloc ?_ _) | (with_reducible refine Kd.C_drewN ?_ _) | (with_reducible refine Kd.C_drew ?_))); (case side4 => exact HC1_4.out); rintro e w18 ⟨rfl, hb⟩; refine ⟨_, rfl, ?_⟩; have n0_ := Aside0.mk (blk_below (g := gb258) (o := .cells #[.int .i64 a0_0, .int .i64 a0_1, .int .i64 a0_2, .bool a0_3, .slice A0_4 l0_4.length c0_4, .slice A0_5 l0_5.length c0_5, .bool a0_6, .bool a0_7] 61 (0, 0)) (by (with_reducible repeat (first | refine blk_drewN ?_ _ | refine blk_drew ?_ | refine blk_alloc ?_ _)); exact BK258.out) hb); have n1_ := Aside0.mk (blk_below (g := gb259) (o := .cells #[.int .i64 a1_0, .int .i64 a1_1, .int .i64 a1_2, .bool a1_3, .slice A1_4 l1_4.length c1_4, .slice A1_5 l1_5.length c1_5, .bool a1_6, .bool a1_7] 61 (0, 0)) (by (with_reducible repeat (first | refine blk_drewN ?_ _ | refine blk_drew ?_ | refine blk_alloc ?_ _)); exact BK259.out) hb); have n2_ := Aside0.mk (below_step (by repeat (first | (with_reducible first | exact HB.out | apply below_alloc | apply pw_below_drewN | apply below_drew1 | refine below_set ?_ GE258.out | refine below_set ?_ GE259.out) | exact HB.out)) hb); clear BK258; clear BK259; clear HB; have BK258 := n0_; have BK259 := n1_; have HB := n2_; clear n0_ n1_ n2_; (try clear hb); (try clear hb2); (try clear hk); (try clear hi); have hcz19_0 : w18.cell? ⟨gb258, 0, none⟩ = some (.int .i64 a0_0) := (blk_cell BK258.out 0).trans rfl; have hcz19_1 : w18.cell? ⟨gb258, 1, none⟩ = some (.int .i64 a0_1) := (blk_cell BK258.out 1).trans rfl; have hcz19_2 : w18.cell? ⟨gb258, 2, none⟩ = some (.int .i64 a0_2) := (blk_cell BK258.out 2).trans rfl; have hcz19_3 : w18.cell? ⟨gb258, 3, none⟩ = some (.bool a0_3) := (blk_cell BK258.out 3).trans rfl; have hcz19_4 : w18.cell? ⟨gb258, 4, none⟩ = some (.slice A0_4 l0_4.length c0_4) := (blk_cell BK258.out 4).trans rfl; have hcz19_5 : w18.cell? ⟨gb258, 5, none⟩ = some (.slice A0_5 l0_5.length c0_5) := (blk_cell BK258.out 5).trans rfl; have hcz19_6 : w18.cell? ⟨gb258, 6, none⟩ = some (.bool a0_6) := (blk_cell BK258.out 6).trans rfl; have hcz19_7 : w18.cell? ⟨gb258, 7, none⟩ = some (.bool a0_7) := (blk_cell BK258.out 7).trans rfl; have hfz19_0 := blk_frozen BK258.out 0; have hfz19_1 := blk_frozen BK258.out 1; have hfz19_2 := blk_frozen BK258.out 2; have hfz19_3 := blk_frozen BK258.out 3; have hfz19_4 := blk_frozen BK258.out 4; have hfz19_5 := blk_frozen BK258.out 5; have hfz19_6 := blk_frozen BK258.out 6; have hfz19_7 := blk_frozen BK258.out 7; have hcz20_0 : w18.cell? ⟨gb259, 0, none⟩ = some (.int .i64 a1_0) := (blk_cell BK259.out 0).trans rfl; have hcz20_1 : w18.cell? ⟨gb259, 1, none⟩ = some (.int .i64 a1_1) := (blk_cell BK259.out 1).trans rfl; have hcz20_2 : w18.cell? ⟨gb259, 2, none⟩ = some (.int .i64 a1_2) := (blk_cell BK259.out 2).trans rfl; have hcz20_3 : w18.cell? ⟨gb259, 3, none⟩ = some (.bool a1_3) := (blk_cell BK259.out 3).trans rfl; have hcz20_4 : w18.cell? ⟨gb259, 4, none⟩ = some (.slice A1_4 l1_4.length c1_4) := (blk_cell BK259.out 4).trans rfl; have hcz20_5 : w18.cell? ⟨gb259, 5, none⟩ = some (.slice A1_5 l1_5.length c1_5) := (blk_cell BK259.out 5).trans rfl; have hcz20_6 : w18.cell? ⟨gb259, 6, none⟩ = some (.bool a1_6) := (blk_cell BK259.out 6).trans rfl; have hcz20_7 : w18.cell? ⟨gb259, 7, none⟩ = some (.bool a1_7) := (blk_cell BK259.out 7).trans rfl; have hfz20_0 := blk_frozen BK259.out 0; have hfz20_1 := blk_frozen BK259.out 1; have hfz20_2 := blk_frozen BK259.out 2; have hfz20_3 := blk_frozen BK259.out 3; have hfz20_4 := blk_frozen BK259.out 4; have hfz20_5 := blk_frozen BK259.out 5; have hfz20_6 := blk_frozen BK259.out 6; have hfz20_7 := blk_frozen BK259.out 7) | ((with_reducible refine gate_callee (f := 90) rfl ?_); refine goesL_ (some 35) rfl rfl Try.func90 (by kernel_rfl) rfl #[.slice A0_5 l0_5.length c0_5, .slice A1_5 l1_5.length c1_5] rfl (by (try simp only [List.map_toArray, List.map_cons, List.map_nil]); first | done | rfl | (simp only [List.length_drop, List.length_take]; rfl)) ?_; (with_reducible refine (laws_eqItemS.calls k _ _ l0_5 _ _ l1_5 true _ ?side1 ?side2 ?side3 ?side4 A9.out rfl).mono ?_); (case side1 => repeat (first | exact (Kd.C_below HR0_5.out HB.out) | (with_reducible refine Kd.C_alloc ?_ _) | (with_reducible refine Kd.C_drewN ?_ _) | (with_reducible refine Kd.C_drew ?_))); (case side2 => exact HC0_5.out); (case side3 => repeat (first | exact (Kd.C_below HR1_5.out HB.out) | (with_reducible refine Kd.C_alloc ?_ _) | (with_reducible refine Kd.C_drewN ?_ _) | (with_reducible refine Kd.C_drew ?_))); (case side4 => exact HC1_5.out); rintro e w21 ⟨rfl, hb⟩; refine ⟨_, rfl, ?_⟩; have n0_ := Aside0.mk (blk_below (g := gb258) (o := .cells #[.int .i64 a0_0, .int .i64 a0_1, .int .i64 a0_2, .bool a0_3, .slice A0_4 l0_4.length c0_4, .slice A0_5 l0_5.length c0_5, .bool a0_6, .bool a0_7] 61 (0, 0)) (by (with_reducible repeat (first | refine blk_drewN ?_ _ | refine blk_drew ?_ | refine blk_alloc ?_ _)); exact BK258.out) hb); have n1_ := Aside0.mk (blk_below (g := gb259) (o := .cells #[.int .i64 a1_0, .int .i64 a1_1, .int .i64 a1_2, .bool a1_3, .slice A1_4 l1_4.length c1_4, .slice A1_5 l1_5.length c1_5, .bool a1_6, .bool a1_7] 61 (0, 0)) (by (with_reducible repeat (first | refine blk_drewN ?_ _ | refine blk_drew ?_ | refine blk_alloc ?_ _)); exact BK259.out) hb); have n2_ := Aside0.mk (below_step (by repeat (first | (with_reducible first | exact HB.out | apply below_alloc | apply pw_below_drewN | apply below_drew1 | refine below_set ?_ GE258.out | refine below_set ?_ GE259.out) | exact HB.out)) hb); clear BK258; clear BK259; clear HB; have BK258 := n0_; have BK259 := n1_; have HB := n2_; clear n0_ n1_ n2_; (try clear hb); (try clear hb2); (try clear hk); (try clear hi); have hcz22_0 : w21.cell? ⟨gb258, 0, none⟩ = some (.int .i64 a0_0) := (blk_cell BK258.out 0).trans rfl; have hcz22_1 : w21.cell? ⟨gb258, 1, none⟩ = some (.int .i64 a0_1) := (blk_cell BK258.out 1).trans rfl; have hcz22_2 : w21.cell? ⟨gb258, 2, none⟩ = some (.int .i64 a0_2) := (blk_cell BK258.out 2).trans rfl; have hcz22_3 : w21.cell? ⟨gb258, 3, none⟩ = some (.bool a0_3) := (blk_cell BK258.out 3).trans rfl; have hcz22_4 : w21.cell? ⟨gb258, 4, none⟩ = some (.slice A0_4 l0_4.length c0_4) := (blk_cell BK258.out 4).trans rfl; have hcz22_5 : w21.cell? ⟨gb258, 5, none⟩ = some (.slice A0_5 l0_5.length c0_5) := (blk_cell BK258.out 5).trans rfl; have hcz22_6 : w21.cell? ⟨gb258, 6, none⟩ = some (.bool a0_6) := (blk_cell BK258.out 6).trans rfl; have hcz22_7 : w21.cell? ⟨gb258, 7, none⟩ = some (.bool a0_7) := (blk_cell BK258.out 7).trans rfl; have hfz22_0 := blk_frozen BK258.out 0; have hfz22_1 := blk_frozen BK258.out 1; have hfz22_2 := blk_frozen BK258.out 2; have hfz22_3 := blk_frozen BK258.out 3; have hfz22_4 := blk_frozen BK258.out 4; have hfz22_5 := blk_frozen BK258.out 5; have hfz22_6 := blk_frozen BK258.out 6; have hfz22_7 := blk_frozen BK258.out 7; have hcz23_0 : w21.cell? ⟨gb259, 0, none⟩ = some (.int .i64 a1_0) := (blk_cell BK259.out 0).trans rfl; have hcz23_1 : w21.cell? ⟨gb259, 1, none⟩ = some (.int .i64 a1_1) := (blk_cell BK259.out 1).trans rfl; have hcz23_2 : w21.cell? ⟨gb259, 2, none⟩ = some (.int .i64 a1_2) := (blk_cell BK259.out 2).trans rfl; have hcz23_3 : w21.cell? ⟨gb259, 3, none⟩ = some (.bool a1_3) := (blk_cell BK259.out 3).trans rfl; have hcz23_4 : w21.cell? ⟨gb259, 4, none⟩ = some (.slice A1_4 l1_4.length c1_4) := (blk_cell BK259.out 4).trans rfl; have hcz23_5 : w21.cell? ⟨gb259, 5, none⟩ = some (.slice A1_5 l1_5.length c1_5) := (blk_cell BK259.out 5).trans rfl; have hcz23_6 : w21.cell? ⟨gb259, 6, none⟩ = some (.bool a1_6) := (blk_cell BK259.out 6).trans rfl; have hcz23_7 : w21.cell? ⟨gb259, 7, none⟩ = some (.bool a1_7) := (blk_cell BK259.out 7).trans rfl; have hfz23_0 := blk_frozen BK259.out 0; have hfz23_1 := blk_frozen BK259.out 1; have hfz23_2 := blk_frozen BK259.out 2; have hfz23_3 := blk_frozen BK259.out 3; have hfz23_4 := blk_frozen BK259.out 4; have hfz23_5 := blk_frozen BK259.out 5; have hfz23_6 := blk_frozen BK259.out 6; have hfz23_7 := blk_frozen BK259.out 7))
                  go_ret
                  exact ⟨by first | rfl | (simp [errW_none, errW_some] <;> rfl) | (simp [*, errW_none, errW_some] <;> rfl), by repeat (first | (with_reducible first | exact HB.out | apply below_alloc | apply pw_below_drewN | apply below_drew1 | refine below_set ?_ GE258.out | refine below_set ?_ GE259.out) | exact HB.out)⟩
            · replace c10 := Bool.eq_false_iff.mpr c10
              subst c10
              have H1 : (some false) = some r := by rw [if_neg (show ¬ (false = true) by decide)] at H; exact H
              clear H
              have H := H1
              clear H1
              exact absurd (Option.some.inj H) (by rw [hrt]; decide)
          · replace c8 := Bool.eq_false_iff.mpr c8
            subst c8
            have H1 : (some false) = some r := by rw [if_neg (show ¬ (false = true) by decide)] at H; exact H
            clear H
            have H := H1
            clear H1
            exact absurd (Option.some.inj H) (by rw [hrt]; decide)
      · rw [if_neg c5] at H
        have c5b0 : (a0_2 == a1_2) = false := beq_eq_false_iff_ne.mpr c5
        have c5b1 : (a0_2 != a1_2) = true := bne_iff_ne.mpr c5
        exact absurd (Option.some.inj H) (by rw [hrt]; decide)
    · rw [if_neg c4] at H
      have c4b0 : (a0_1 == a1_1) = false := beq_eq_false_iff_ne.mpr c4
      have c4b1 : (a0_1 != a1_1) = true := bne_iff_ne.mpr c4
      exact absurd (Option.some.inj H) (by rw [hrt]; decide)
  · rw [if_neg c3] at H
    have c3b0 : (a0_0 == a1_0) = false := beq_eq_false_iff_ne.mpr c3
    have c3b1 : (a0_0 != a1_0) = true := bne_iff_ne.mpr c3
    exact absurd (Option.some.inj H) (by rw [hrt]; decide)

end Go.Proofs.Ytjmlbkhcjgehdaa.PFnExactTrackReads
