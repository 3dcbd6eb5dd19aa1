/- Walks of functions of the program: what each call returns and what it leaves in memory. Conditions: those that each theorem names. -/
import Derived.Test.YtgleoebogikooaaM6
namespace Go.Proofs.Ytgleoebogikooaa.Dk
set_option linter.unusedVariables false
set_option linter.unusedSimpArgs false
open Go.Proofs.Ytgleoebogikooaa.Sx Go.Proofs Go.RowKit
set_option maxRecDepth 100000
set_option maxHeartbeats 1000000
theorem markItem_ok (x : It) (b : Nat) (A : Option Addr) (c : Nat) (k : Int) (w : World) (S : Nat → Prop) (h : sepL [rowA 5 kU8 x.t (.slice A x.t.length c)] w.heap S) (hS : ∀ b, S b → b < w.heap.size) (hl : x.t.length ≤ 1048576) (hk : 0 ≤ k ∧ k ≤ 1073741824) :
    Calls Try.prog 31 #[.agg #[.int .i64 x.kind, .int .i64 x.n, .float .f64 b, .slice A x.t.length c], .int .i64 k] w fun e w' => e = .returned (.int .i64 (k + x.t.length)) ∧ Mut w w' S [] := by
  refine enter (args := [.agg [.v (.int .i64 x.kind), .v (.int .i64 x.n), .v (.float .f64 b), .v (.slice A x.t.length c)], .one (.v (.int .i64 k))]) Try.func31 (c := bodyOf Try.f31) rfl rfl (start_LOK _) (start_mut h hS) ?_
  refine go mixed 2000 [6, 7] 0 (St.mk (Rg.sq [true, false] 3) [KI.code [true, true]] [(6, vS A x.t.length c), (7, vI k)] []) (by kernel_rfl) (by kernel_rfl) (by kernel_rfl) ?_
  refine call_mut (A := [rowA 5 kU8 x.t (.slice A x.t.length c)]) (by kernel_rfl : atC _ _ _ false = some (62, [vS A x.t.length c, vI k], some 8, Rg.sq [true, false] 4)) (by kernel_rfl) (fun L w1 S1 hs hA hS1 => (markByteS_ok x.t A c _ w1 S1 hA hS1 hl (by omega)).mono ?_)
  rintro e w2 ⟨rfl, hm⟩
  refine ⟨.one (.v (.int .i64 _)), _, rfl, hm, ?_⟩
  clear hm hs hA hS1
  refine go mixed 2000 [4] 0 (St.mk Rg.no [kCd (bitL 3 7)] [(4, vI (k + (↑x.t.length : Int)))] []) (by kernel_rfl) (by kernel_rfl) (by kernel_rfl) ?_
  refine ret_ok (vs := [vI (k + (↑x.t.length : Int))]) (by kernel_rfl) ?_
  intro L w1 hs
  exact ⟨rfl, SOK.outm (As := []) hs.drop⟩

end Go.Proofs.Ytgleoebogikooaa.Dk
