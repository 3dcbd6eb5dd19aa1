/- Walks of functions of the program: what each call returns and what it leaves in memory. Conditions: those that each theorem names. -/
import Derived.Test.YtgleoebogikooaaGreatC2
namespace Go.Proofs.YtgleoebogikooaaGreat.Dk
set_option linter.unusedVariables false
set_option linter.unusedSimpArgs false
open Go.Proofs.YtgleoebogikooaaGreat.Sx Go.Proofs Go.RowKit
set_option maxRecDepth 100000
set_option maxHeartbeats 1000000
theorem toByteS_ok (xs : List Int) (vxs : Value) (w : World) (hxs : rdRow kU8 w.heap xs vxs) (hz : xs.length ≤ 1048576) :
  Calls Tryz.prog 43 #[vxs] w fun e w' => ∃ (Ao : Option Addr) (co : Nat), e = .returned (.slice Ao xs.length co) ∧ Fresh w w' [rowA 5 kU8 xs (.slice Ao xs.length co)] := by
 obtain ⟨Axs, cxs, rfl⟩ := rdRow_form hxs
 refine enter (args := [.one (.v (.slice Axs xs.length cxs))]) Tryz.func43 (c := bodyOf Tryz.f43) rfl rfl (start_LOK _) (start_old w) ?_
 have hzl : xs.length ≤ 1048576 := by omega
 refine gn 0 (Rg.sq [true, false] 2) [KI.code [true, true]] [(0, vS Axs xs.length cxs), (6, vI (↑xs.length : Int))] [] ?_
 refine make_at (d := kU8) xs.length 0 (zc := [.int .u8 0]) (by_ := 1) (e := 5) true (by kernel_rfl : atB _ _ _ true = some (Op.makeSlice 44 (tmpO 6) (tmpO 6), 44, some 7, Rg.sq [true, false] 3)) (by kernel_rfl) (by kernel_rfl) rfl rfl rfl rfl (by omega) (by simp [maxLen]; omega) (fun _ => rfl) ?_
 intro g
 refine gn 0 Rg.no [kLp (bitL 6 59), KI.block 0, kCd (bitL 3 7)] [(0, vS Axs xs.length cxs), (3, vS (some (Addr.mk g 0 none)) xs.length xs.length), (4, vI 0)] [] ?_
 refine loop_at (ι := Nat) (fun i => [(4, .one (.v (.int .i64 i)))]) (fun _ => []) (fun i => [rowA 5 kU8 (xs.take i ++ List.replicate (xs.length - i) 0) (.slice (some ⟨g, 0, none⟩) xs.length xs.length), oldA w]) (fun i => i ≤ xs.length) (fun i => xs.length - i) 0 rfl rfl (by simp) (Nat.zero_le _) ?_
 intro i hi ih
 have hfl : (xs.take i ++ List.replicate (xs.length - i) 0).length = xs.length := by simp; omega
 refine gn 0 Rg.no [kCd (bitL 8 187), kCd (bitL 7 123), kLp (bitL 6 59), KI.block 0, kCd (bitL 3 7)] [(0, vS Axs xs.length cxs), (3, vS (some (Addr.mk g 0 none)) xs.length xs.length), (4, vI (↑i : Int)), (11, vB (decide ((↑i : Int) < (↑xs.length : Int))))] [] ?_
 refine spl 11 (decide ((↑i : Int) < (↑xs.length : Int))) ?_ ?_
 rotate_left
 ·intro hb1
  replace hb1 := of_decide_eq_false hb1
  refine gn 0 Rg.no [kCd (bitL 4 15)] [(2, vS (some (Addr.mk g 0 none)) xs.length xs.length)] [] ?_
  refine rtk [vS (some (Addr.mk g 0 none)) xs.length xs.length] ?_
  intro L w1 hs
  have e1 : i = xs.length := (by omega); subst e1; simp only [List.take_length, Nat.sub_self, List.replicate_zero, List.append_nil] at hs; exact ⟨_, _, rfl, hs.out (As := [_])⟩
 intro hb1
 replace hb1 := of_decide_eq_true hb1
 refine gn 0 (Rg.sq (bitL 9 379) 4) [KI.block 1, kCd (bitL 8 251), kLp (bitL 6 59), KI.block 0, kCd (bitL 3 7)] [(0, vS Axs xs.length cxs), (3, vS (some (Addr.mk g 0 none)) xs.length xs.length), (4, vI (↑i : Int)), (14, vS (some (Addr.mk g 0 none)) xs.length xs.length), (15, vI (↑i : Int)), (16, vS Axs xs.length cxs), (17, vI (↑i : Int))] [] ?_
 refine index_at 4 (by kernel_rfl : atP _ _ _ 4 false = some (Op.indexAddr 44 (tmpO 16) (tmpO 17), 0, some 18, Rg.sq (bitL 9 379) 5)) (ni := i) (sz := 1) (by kernel_rfl) rfl rfl rfl (by omega) (fun L w1 hs => rd_some (i := i) (rdRow_ext (hs.old 1 rfl) hxs) (by omega)) ?_
 intro a_1 ha_1
 cases ha_1
 refine gn 0 (Rg.sq (bitL 9 379) 5) [KI.block 1, kCd (bitL 8 251), kLp (bitL 6 59), KI.block 0, kCd (bitL 3 7)] [(0, vS (some a_1) xs.length cxs), (3, vS (some (Addr.mk g 0 none)) xs.length xs.length), (4, vI (↑i : Int)), (14, vS (some (Addr.mk g 0 none)) xs.length xs.length), (15, vI (↑i : Int)), (18, vP (a_1.add (i * 1)))] [] ?_
 refine load_one 5 (by kernel_rfl : atP _ _ _ 5 true = some (Op.load 5 (tmpO 18), 5, some 19, Rg.sq (bitL 9 379) 6)) (n := 1) (by kernel_rfl) rfl ?_
 intro L w1 hs
 refine ⟨.v (Value.int IntKind.u8 ((xs)[i]'(by omega))), rd_sc (rdRow_ext (hs.old 1 rfl) hxs) (by omega), ?_⟩
 clear hs
 refine gn 0 (Rg.sq (bitL 9 379) 6) [KI.block 1, kCd (bitL 8 251), kLp (bitL 6 59), KI.block 0, kCd (bitL 3 7)] [(0, vS (some a_1) xs.length cxs), (3, vS (some (Addr.mk g 0 none)) xs.length xs.length), (4, vI (↑i : Int)), (14, vS (some (Addr.mk g 0 none)) xs.length xs.length), (15, vI (↑i : Int)), (19, SV.one (SC.v (Value.int IntKind.u8 xs[i])))] [] ?_
 refine index_at 6 (by kernel_rfl : atP _ _ _ 6 false = some (Op.indexAddr 44 (tmpO 14) (tmpO 15), 0, some 20, Rg.sq (bitL 9 379) 7)) (ni := i) (sz := 1) (by kernel_rfl) rfl rfl rfl (by omega) (fun L w1 hs => rd_some (i := i) (hs.rd 0 rfl) (by omega)) ?_
 intro a_2 ha_2
 cases ha_2
 refine gn 0 (Rg.sq (bitL 9 379) 7) [KI.block 1, kCd (bitL 8 251), kLp (bitL 6 59), KI.block 0, kCd (bitL 3 7)] [(0, vS (some a_1) xs.length cxs), (3, vS (some (Addr.mk g 0 none)) xs.length xs.length), (4, vI (↑i : Int)), (19, SV.one (SC.v (Value.int IntKind.u8 xs[i]))), (20, vP ((Addr.mk g 0 none).add (i * 1)))] [] ?_
 have hlt : i < xs.length := by omega
 refine store_el (A := []) (d := kU8) (y := xs[i]) (by kernel_rfl : atB _ _ _ false = some (Op.store 5 (tmpO 20) (tmpO 19), 0, none, Rg.sq (bitL 9 379) 8)) (by kernel_rfl) rfl rfl rfl rfl rfl (by simp; omega) (fun _ _ _ => rfl) ?_
 refine gn 0 Rg.no [kLp (bitL 6 59), KI.block 0, kCd (bitL 3 7)] [(0, vS (some a_1) xs.length cxs), (3, vS (some (Addr.mk g 0 none)) xs.length xs.length), (4, vI (IntKind.i64.wrap ((↑i : Int) + 1)))] [] ?_
 rw [wrap_succ (by omega), set_fill xs 0 hlt]
 exact ih (i + 1) hlt (by omega)
theorem toIntS_ok (xs : List Int) (vxs : Value) (w : World) (hxs : rdRow kI64 w.heap xs vxs) (hz : xs.length ≤ 1048576) :
  Calls Tryz.prog 16 #[vxs] w fun e w' => ∃ (Ao : Option Addr) (co : Nat), e = .returned (.slice Ao xs.length co) ∧ Fresh w w' [rowA 3 kI64 xs (.slice Ao xs.length co)] := by
 obtain ⟨Axs, cxs, rfl⟩ := rdRow_form hxs
 refine enter (args := [.one (.v (.slice Axs xs.length cxs))]) Tryz.func16 (c := bodyOf Tryz.f16) rfl rfl (start_LOK _) (start_old w) ?_
 have hzl : xs.length ≤ 1048576 := by omega
 refine gn 0 (Rg.sq [true, false] 2) [KI.code [true, true]] [(0, vS Axs xs.length cxs), (6, vI (↑xs.length : Int))] [] ?_
 refine make_at (d := kI64) xs.length 0 (zc := [.int .i64 0]) (by_ := 8) (e := 3) true (by kernel_rfl : atB _ _ _ true = some (Op.makeSlice 37 (tmpO 6) (tmpO 6), 37, some 7, Rg.sq [true, false] 3)) (by kernel_rfl) (by kernel_rfl) rfl rfl rfl rfl (by omega) (by simp [maxLen]; omega) (fun _ => rfl) ?_
 intro g
 refine gn 0 Rg.no [kLp (bitL 6 59), KI.block 0, kCd (bitL 3 7)] [(0, vS Axs xs.length cxs), (3, vS (some (Addr.mk g 0 none)) xs.length xs.length), (4, vI 0)] [] ?_
 refine loop_at (ι := Nat) (fun i => [(4, .one (.v (.int .i64 i)))]) (fun _ => []) (fun i => [rowA 3 kI64 (xs.take i ++ List.replicate (xs.length - i) 0) (.slice (some ⟨g, 0, none⟩) xs.length xs.length), oldA w]) (fun i => i ≤ xs.length) (fun i => xs.length - i) 0 rfl rfl (by simp) (Nat.zero_le _) ?_
 intro i hi ih
 have hfl : (xs.take i ++ List.replicate (xs.length - i) 0).length = xs.length := by simp; omega
 refine gn 0 Rg.no [kCd (bitL 8 187), kCd (bitL 7 123), kLp (bitL 6 59), KI.block 0, kCd (bitL 3 7)] [(0, vS Axs xs.length cxs), (3, vS (some (Addr.mk g 0 none)) xs.length xs.length), (4, vI (↑i : Int)), (11, vB (decide ((↑i : Int) < (↑xs.length : Int))))] [] ?_
 refine spl 11 (decide ((↑i : Int) < (↑xs.length : Int))) ?_ ?_
 rotate_left
 ·intro hb1
  replace hb1 := of_decide_eq_false hb1
  refine gn 0 Rg.no [kCd (bitL 4 15)] [(2, vS (some (Addr.mk g 0 none)) xs.length xs.length)] [] ?_
  refine rtk [vS (some (Addr.mk g 0 none)) xs.length xs.length] ?_
  intro L w1 hs
  have e1 : i = xs.length := (by omega); subst e1; simp only [List.take_length, Nat.sub_self, List.replicate_zero, List.append_nil] at hs; exact ⟨_, _, rfl, hs.out (As := [_])⟩
 intro hb1
 replace hb1 := of_decide_eq_true hb1
 refine gn 0 (Rg.sq (bitL 9 379) 4) [KI.block 1, kCd (bitL 8 251), kLp (bitL 6 59), KI.block 0, kCd (bitL 3 7)] [(0, vS Axs xs.length cxs), (3, vS (some (Addr.mk g 0 none)) xs.length xs.length), (4, vI (↑i : Int)), (14, vS (some (Addr.mk g 0 none)) xs.length xs.length), (15, vI (↑i : Int)), (16, vS Axs xs.length cxs), (17, vI (↑i : Int))] [] ?_
 refine index_at 4 (by kernel_rfl : atP _ _ _ 4 false = some (Op.indexAddr 37 (tmpO 16) (tmpO 17), 0, some 18, Rg.sq (bitL 9 379) 5)) (ni := i) (sz := 1) (by kernel_rfl) rfl rfl rfl (by omega) (fun L w1 hs => rd_some (i := i) (rdRow_ext (hs.old 1 rfl) hxs) (by omega)) ?_
 intro a_1 ha_1
 cases ha_1
 refine gn 0 (Rg.sq (bitL 9 379) 5) [KI.block 1, kCd (bitL 8 251), kLp (bitL 6 59), KI.block 0, kCd (bitL 3 7)] [(0, vS (some a_1) xs.length cxs), (3, vS (some (Addr.mk g 0 none)) xs.length xs.length), (4, vI (↑i : Int)), (14, vS (some (Addr.mk g 0 none)) xs.length xs.length), (15, vI (↑i : Int)), (18, vP (a_1.add (i * 1)))] [] ?_
 refine load_one 5 (by kernel_rfl : atP _ _ _ 5 true = some (Op.load 3 (tmpO 18), 3, some 19, Rg.sq (bitL 9 379) 6)) (n := 1) (by kernel_rfl) rfl ?_
 intro L w1 hs
 refine ⟨.v (Value.int IntKind.i64 ((xs)[i]'(by omega))), rd_sc (rdRow_ext (hs.old 1 rfl) hxs) (by omega), ?_⟩
 clear hs
 refine gn 0 (Rg.sq (bitL 9 379) 6) [KI.block 1, kCd (bitL 8 251), kLp (bitL 6 59), KI.block 0, kCd (bitL 3 7)] [(0, vS (some a_1) xs.length cxs), (3, vS (some (Addr.mk g 0 none)) xs.length xs.length), (4, vI (↑i : Int)), (14, vS (some (Addr.mk g 0 none)) xs.length xs.length), (15, vI (↑i : Int)), (19, vI xs[i])] [] ?_
 refine index_at 6 (by kernel_rfl : atP _ _ _ 6 false = some (Op.indexAddr 37 (tmpO 14) (tmpO 15), 0, some 20, Rg.sq (bitL 9 379) 7)) (ni := i) (sz := 1) (by kernel_rfl) rfl rfl rfl (by omega) (fun L w1 hs => rd_some (i := i) (hs.rd 0 rfl) (by omega)) ?_
 intro a_2 ha_2
 cases ha_2
 refine gn 0 (Rg.sq (bitL 9 379) 7) [KI.block 1, kCd (bitL 8 251), kLp (bitL 6 59), KI.block 0, kCd (bitL 3 7)] [(0, vS (some a_1) xs.length cxs), (3, vS (some (Addr.mk g 0 none)) xs.length xs.length), (4, vI (↑i : Int)), (19, vI xs[i]), (20, vP ((Addr.mk g 0 none).add (i * 1)))] [] ?_
 have hlt : i < xs.length := by omega
 refine store_el (A := []) (d := kI64) (y := xs[i]) (by kernel_rfl : atB _ _ _ false = some (Op.store 3 (tmpO 20) (tmpO 19), 0, none, Rg.sq (bitL 9 379) 8)) (by kernel_rfl) rfl rfl rfl rfl rfl (by simp; omega) (fun _ _ _ => rfl) ?_
 refine gn 0 Rg.no [kLp (bitL 6 59), KI.block 0, kCd (bitL 3 7)] [(0, vS (some a_1) xs.length cxs), (3, vS (some (Addr.mk g 0 none)) xs.length xs.length), (4, vI (IntKind.i64.wrap ((↑i : Int) + 1)))] [] ?_
 rw [wrap_succ (by omega), set_fill xs 0 hlt]
 exact ih (i + 1) hlt (by omega)
end Go.Proofs.YtgleoebogikooaaGreat.Dk
