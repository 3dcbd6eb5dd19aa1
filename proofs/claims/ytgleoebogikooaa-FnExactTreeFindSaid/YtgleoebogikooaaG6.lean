/- Walks of functions of the program: what each call returns and what it leaves in memory. Conditions: those that each theorem names. -/
import Derived.Test.YtgleoebogikooaaG5
namespace Go.Proofs.Ytgleoebogikooaa.Dk
set_option linter.unusedVariables false
set_option linter.unusedSimpArgs false
open Go.Proofs.Ytgleoebogikooaa.Sx Go.Proofs Go.RowKit
set_option maxRecDepth 100000
set_option maxHeartbeats 1000000
theorem go_wrong (nt : Nat) (A0 : Option Addr) (c0 : Nat) (root : Int) (k : Wk) (hk : k.wrong = true) (at_ dp : Int) (A1 A2 : Option Addr) (n1 c1 n2 c2 : Nat) (g : Nat) (S : Nat → Prop) (w : World) (h : sepL (blkA g k.vals 94 :: k.as) w.heap S) (hS : ∀ b, S b → b < w.heap.size) :
    Calls Try.prog 97 #[.agg #[.slice A0 nt c0, .int .i64 root], .pointer (some ⟨g, 0, none⟩), .int .i64 at_, .int .i64 dp, .slice A1 n1 c1, .slice A2 n2 c2] w fun e w' => e = .returned (.tuple #[]) ∧ Mut w w' S (blkA g k.vals 94 :: k.as) := by
  obtain ⟨A, m, n, deep, wrong, B, c, bs, css⟩ := k
  simp only at hk
  subst hk
  have hgS : S g := by obtain ⟨S1, _, h1, _, _, ⟨hg, _⟩, _⟩ := h; exact h1 g hg
  have hst := start_ptr (cells := [.v (.slice A m n), .v (.int .i64 deep), .bo true, .v (.slice B css.length c)]) h hS rfl
  refine enter (L0 := [g]) (args := [.agg [.v (.slice A0 nt c0), .v (.int .i64 root)], .one (.ptr 0 0), .one (.v (.int .i64 at_)), .one (.v (.int .i64 dp)), .one (.v (.slice A1 n1 c1)), .one (.v (.slice A2 n2 c2))]) Try.func97 (c := bodyOf Try.f97) rfl rfl hst.1 hst.2 ?_
  clear hst h hS
  refine go mixed 2000 [1, 2, 3, 4, 5, 6, 22] 2 (St.mk (Rg.sq (bitL 3 1) 5) [kCd (bitL 3 5), KI.code [true, true]] [(1, vR 0 0), (2, vI at_), (3, vI dp), (4, vS A1 n1 c1), (5, vS A2 n2 c2), (6, vR 1 0), (22, vB true)] [LB.mk [cS A m n, cI deep, SC.bo true, cS B css.length c] 94, LB.mk [cS A0 nt c0, cI root] 29]) (by kernel_rfl) (by kernel_rfl) (by kernel_rfl) ?_
  refine lit_at 22 (b := true) (by kernel_rfl) ?_
  refine go mixed 2000 [] 1 (St.mk Rg.no [kCd (bitL 5 21), KI.code [true, true]] [] [LB.mk [cS A m n, cI deep, SC.v (Value.bool true), cS B css.length c] 94]) (by kernel_rfl) (by kernel_rfl) (by kernel_rfl) ?_
  refine ret_ok (vs := []) (by kernel_rfl) ?_
  intro L w1 hs
  exact ⟨rfl, SOK.outp (As := [_, _]) hs rfl rfl hgS⟩

end Go.Proofs.Ytgleoebogikooaa.Dk
