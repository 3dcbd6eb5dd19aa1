/- Walks of functions of the program: what each call returns and what it leaves in memory. Conditions: those that each theorem names. -/
import Derived.Test.YtgleoebogikooaaGreatT4
namespace Go.Proofs.YtgleoebogikooaaGreat.Dk
set_option linter.unusedVariables false
set_option linter.unusedSimpArgs false
open Go.Proofs.YtgleoebogikooaaGreat.Sx Go.Proofs Go.RowKit
set_option maxRecDepth 100000
set_option maxHeartbeats 1000000
theorem rowsTrue_ok (x : Tu) (csx : List Value) (w : World) (hx : kTu.rd w.heap x csx) :
    Calls Tryz.prog 31 #[.agg csx.toArray] w fun e w' => e = .returned (.bool true) ∧ Below w.heap.size w w' := by
  obtain ⟨bxkey_f, Axkey_t, cxkey_t, bxvalue_f, Axvalue_t, cxvalue_t, rfl, hbxkey_f, hfxkey_f, hrxkey_t, hbxvalue_f, hfxvalue_f, hrxvalue_t⟩ := kTu_inv hx
  refine enter (args := [.agg [.v (.int .i64 x.xmin), .v (.int .i64 x.xmax), .v (.int .i64 x.key.kind), .v (.int .i64 x.key.n), .v (.float .f64 bxkey_f), .v (.slice Axkey_t x.key.t.length cxkey_t), .v (.int .i64 x.value.kind), .v (.int .i64 x.value.n), .v (.float .f64 bxvalue_f), .v (.slice Axvalue_t x.value.t.length cxvalue_t)]]) Tryz.func31 (c := bodyOf Tryz.f31) rfl rfl (start_LOK _) (start_old w) ?_
  refine gn 0 Rg.no [KI.code [true, true]] [(2, vL true)] [] ?_
  refine rtk [vL true] ?_
  intro L w1 hs
  exact ⟨rfl, hs.out0⟩

theorem rowsQ_true (h : He) : rowsQ h (fun _ => true) = rowsR h := by
  unfold rowsQ rowsR
  split
  · exact List.filter_eq_self.2 fun _ _ => rfl
  · rfl
theorem iHRows_ok (h : He) (csh : List Value) (w : World) (hh : kHe.rd w.heap h csh) (hz : zHe h ≤ 1048576) (hb : byHe h) :
    Calls Tryz.prog 9 #[.agg csh.toArray] w fun e w' => ∃ (B : Option Addr) (d : Nat), e = .returned (.slice B (rowsR h).length d) ∧ Fresh w w' [rowA 64 kRw (rowsR h) (.slice B (rowsR h).length d)] := by
  obtain ⟨Ahpages, chpages, rfl, hrhpages⟩ := kHe_inv hh
  refine enter (args := [.agg [.v (.slice Ahpages h.pages.length chpages)]]) Tryz.func9 (c := bodyOf Tryz.f9) rfl rfl (start_LOK _) (start_old w) ?_
  refine gn 0 (Rg.sq [true, false] 1) [KI.code [true, true]] [(3, SV.agg [cS Ahpages h.pages.length chpages])] [] ?_
  refine call_at true (by kernel_rfl : atC _ _ _ true = some (30, [SV.agg [cS Ahpages h.pages.length chpages], SV.one (SC.v (Value.func (Fn.func 31) #[] #[]))], some 4, Rg.sq [true, false] 2)) (by kernel_rfl) (fun L w1 hs => (rowsOf0_ok 31 (by kernel_rfl) (fun _ => true) h _ w1 (kHe_mk (rdRow_ext (hs.old 0 rfl) hrhpages)) hz hb (fun r hr w2 hag cs hcs => rowsTrue_ok r.tuple cs w2 hcs)).mono ?_)
  rintro e w2 ⟨B1, d1, rfl, hf⟩
  refine ⟨.one (.v (.slice B1 _ d1)), _, _, rfl, fun _ => hf.1.block, hs.fresh hf, ?_⟩
  clear hs hf
  rw [rowsQ_true]
  refine gn 0 Rg.no [KI.code [true, true]] [(2, vS B1 (rowsR h).length d1)] [] ?_
  refine rtk [vS B1 (rowsR h).length d1] ?_
  intro L w1 hs
  exact ⟨_, _, rfl, hs.out (As := [_])⟩

end Go.Proofs.YtgleoebogikooaaGreat.Dk
