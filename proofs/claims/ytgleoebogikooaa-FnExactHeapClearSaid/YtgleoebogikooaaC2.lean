/- Walks of functions of the program: what each call returns and what it leaves in memory. Conditions: those that each theorem names. -/
import Derived.Test.YtgleoebogikooaaC1
namespace Go.Proofs.Ytgleoebogikooaa.Dk
set_option linter.unusedVariables false
set_option linter.unusedSimpArgs false
open Go.Proofs.Ytgleoebogikooaa.Sx Go.Proofs Go.RowKit
set_option maxRecDepth 100000
set_option maxHeartbeats 1000000
theorem eqByteS_ok (xs : List Int) (v1 v2 : Value) (w : World) (h1 : rdRow kU8 w.heap xs v1) (h2 : rdRow kU8 w.heap xs v2) (hz : xs.length ≤ 1048576) :
    Calls Try.prog 69 #[v1, v2] w fun e w' => e = .returned (.bool true) ∧ Below w.heap.size w w' := by
  obtain ⟨A1, c1, rfl⟩ := rdRow_form h1
  obtain ⟨A2, c2, rfl⟩ := rdRow_form h2
  refine enter (args := [.one (.v (.slice A1 xs.length c1)), .one (.v (.slice A2 xs.length c2))]) Try.func69 (c := bodyOf Try.f69) rfl rfl (start_LOK _) (start_old w) ?_
  have hzl : xs.length ≤ 1048576 := by omega
  refine gm [0, 1, 10] 0 (St.mk Rg.no [kCd (bitL 3 5), KI.code [true, true]] [(0, vS A1 xs.length c1), (1, vS A2 xs.length c2), (10, vB ((↑xs.length : Int) != (↑xs.length : Int)))] []) ?_
  refine spl 10 ((↑xs.length : Int) != (↑xs.length : Int)) ?_ ?_
  · intro hb1
    replace hb1 := bne_iff_ne.1 hb1
    (exfalso; omega)
  intro hb1
  replace hb1 := bne_eq_false_iff_eq.1 hb1
  refine gm [0, 1, 5] 0 (St.mk Rg.no [kLp (bitL 6 59), KI.block 0, kCd (bitL 3 7)] [(0, vS A1 xs.length c1), (1, vS A2 xs.length c2), (5, vI 0)] []) ?_
  refine loop_at (ι := Nat) (fun i => [(5, .one (.v (.int .i64 i)))]) (fun _ => []) (fun i => [oldA w]) (fun i => i ≤ xs.length) (fun i => xs.length - i) 0 rfl rfl rfl (Nat.zero_le _) ?_
  intro i hi ih
  refine gm [0, 1, 5, 14] 0 (St.mk Rg.no [kCd (bitL 8 187), kCd (bitL 7 123), kLp (bitL 6 59), KI.block 0, kCd (bitL 3 7)] [(0, vS A1 xs.length c1), (1, vS A2 xs.length c2), (5, vI (↑i : Int)), (14, vB (decide ((↑i : Int) < (↑xs.length : Int))))] []) ?_
  refine spl 14 (decide ((↑i : Int) < (↑xs.length : Int))) ?_ ?_
  · intro hb2
    replace hb2 := of_decide_eq_true hb2
    refine gm [0, 1, 5, 17, 18, 21, 22] 0 (St.mk (Rg.dr (bitL 10 379) (bitL 9 51) 5 2) [kCd (bitL 10 891), KI.block 1, kCd (bitL 8 251), kLp (bitL 6 59), KI.block 0, kCd (bitL 3 7)] [(0, vS A1 xs.length c1), (1, vS A2 xs.length c2), (5, vI (↑i : Int)), (17, vS A1 xs.length c1), (18, vI (↑i : Int)), (21, vS A2 xs.length c2), (22, vI (↑i : Int))] []) ?_
    refine index_at 2 (by kernel_rfl : atP _ _ _ 2 false = some (Op.indexAddr 40 (tmpO 17) (tmpO 18), 0, some 19, Rg.dr (bitL 10 379) (bitL 9 55) 4 2)) (ni := i) (sz := 1) (by kernel_rfl) rfl rfl rfl (by omega) (fun L w1 hs => rd_some (i := i) (rdRow_ext (hs.old 0 rfl) h1) (by omega)) ?_
    intro a_1 ha_1
    cases ha_1
    refine gm [0, 1, 5, 19, 21, 22] 0 (St.mk (Rg.dr (bitL 10 379) (bitL 9 55) 4 2) [kCd (bitL 10 891), KI.block 1, kCd (bitL 8 251), kLp (bitL 6 59), KI.block 0, kCd (bitL 3 7)] [(0, vS (some a_1) xs.length c1), (1, vS A2 xs.length c2), (5, vI (↑i : Int)), (19, vP (a_1.add (i * 1))), (21, vS A2 xs.length c2), (22, vI (↑i : Int))] []) ?_
    refine index_at 6 (by kernel_rfl : atP _ _ _ 6 false = some (Op.indexAddr 40 (tmpO 21) (tmpO 22), 0, some 23, Rg.dr (bitL 10 379) (bitL 9 119) 3 2)) (ni := i) (sz := 1) (by kernel_rfl) rfl rfl rfl (by omega) (fun L w1 hs => rd_some (i := i) (rdRow_ext (hs.old 0 rfl) h2) (by omega)) ?_
    intro a_2 ha_2
    cases ha_2
    refine gm [0, 1, 5, 19, 23] 0 (St.mk (Rg.dr (bitL 10 379) (bitL 9 119) 3 2) [kCd (bitL 10 891), KI.block 1, kCd (bitL 8 251), kLp (bitL 6 59), KI.block 0, kCd (bitL 3 7)] [(0, vS (some a_1) xs.length c1), (1, vS (some a_2) xs.length c2), (5, vI (↑i : Int)), (19, vP (a_1.add (i * 1))), (23, vP (a_2.add (i * 1)))] []) ?_
    refine load_one 3 (by kernel_rfl : atP _ _ _ 3 true = some (Op.load 5 (tmpO 19), 5, some 20, Rg.dr (bitL 10 379) (bitL 9 127) 2 2)) (n := 1) (by kernel_rfl) rfl ?_
    intro L w1 hs
    refine ⟨.v (Value.int IntKind.u8 ((xs)[i]'(by omega))), rd_sc (rdRow_ext (hs.old 0 rfl) h1) (by omega), ?_⟩
    clear hs
    refine gm [0, 1, 5, 20, 23] 0 (St.mk (Rg.dr (bitL 10 379) (bitL 9 127) 2 2) [kCd (bitL 10 891), KI.block 1, kCd (bitL 8 251), kLp (bitL 6 59), KI.block 0, kCd (bitL 3 7)] [(0, vS (some a_1) xs.length c1), (1, vS (some a_2) xs.length c2), (5, vI (↑i : Int)), (20, SV.one (SC.v (Value.int IntKind.u8 xs[i]))), (23, vP (a_2.add (i * 1)))] []) ?_
    refine load_one 7 (by kernel_rfl : atP _ _ _ 7 true = some (Op.load 5 (tmpO 23), 5, some 24, Rg.dr (bitL 10 379) (bitL 9 255) 1 2)) (n := 1) (by kernel_rfl) rfl ?_
    intro L w1 hs
    refine ⟨.v (Value.int IntKind.u8 ((xs)[i]'(by omega))), rd_sc (rdRow_ext (hs.old 0 rfl) h2) (by omega), ?_⟩
    clear hs
    refine gm [0, 1, 5, 25] 0 (St.mk Rg.no [kCd (bitL 10 891), KI.block 1, kCd (bitL 8 251), kLp (bitL 6 59), KI.block 0, kCd (bitL 3 7)] [(0, vS (some a_1) xs.length c1), (1, vS (some a_2) xs.length c2), (5, vI (↑i : Int)), (25, vB (xs[i] != xs[i]))] []) ?_
    refine spl 25 (xs[i] != xs[i]) ?_ ?_
    · intro hb3
      replace hb3 := bne_iff_ne.1 hb3
      (exfalso; omega)
    · intro hb3
      replace hb3 := bne_eq_false_iff_eq.1 hb3
      refine gm [0, 1, 5] 0 (St.mk Rg.no [kLp (bitL 6 59), KI.block 0, kCd (bitL 3 7)] [(0, vS (some a_1) xs.length c1), (1, vS (some a_2) xs.length c2), (5, vI (IntKind.i64.wrap ((↑i : Int) + 1)))] []) ?_
      rw [wrap_succ (by omega)]; exact ih (i + 1) (by omega) (by omega)
  · intro hb2
    replace hb2 := of_decide_eq_false hb2
    refine gm [4] 0 (St.mk Rg.no [kCd (bitL 4 15)] [(4, vL true)] []) ?_
    refine rtk [vL true] ?_
    intro L w1 hs
    exact ⟨rfl, hs.out0⟩

end Go.Proofs.Ytgleoebogikooaa.Dk
