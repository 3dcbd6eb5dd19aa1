/- Walks of functions of the program: what each call returns and what it leaves in memory. Conditions: those that each theorem names. -/
import Derived.Test.YtgleoebogikooaaC2
namespace Go.Proofs.Ytgleoebogikooaa.Dk
set_option linter.unusedVariables false
set_option linter.unusedSimpArgs false
open Go.Proofs.Ytgleoebogikooaa.Sx Go.Proofs Go.RowKit
set_option maxRecDepth 100000
set_option maxHeartbeats 1000000
theorem kIt_own {h : Hp} {S : Nat → Prop} {x : It} {bf : Nat} {At : Option Addr} {ct : Nat} (hbf : bf < 18446744073709551616) (hff : canonF bf = x.f) (ho : sepL [rowA 5 kU8 x.t (.slice At x.t.length ct)] h S) : kIt.ow h S x [.int .i64 x.kind, .int .i64 x.n, .float .f64 bf, .slice At x.t.length ct] := by
  obtain ⟨T0, U0, t0, u0, d0, o0, p0⟩ := ho
  have e0 := rowA_holds.1 o0
  have s0 : ∀ b, T0 b → S b := fun b tb => t0 b tb
  refine kIt.mono (S := T0) (by grind) ?_
  exact ⟨[.int .i64 x.kind], [.int .i64 x.n, .float .f64 bf, .slice At x.t.length ct], rfl, (fun _ => False), T0, by grind, by grind, by grind, rfl, ⟨[.int .i64 x.n], [.float .f64 bf, .slice At x.t.length ct], rfl, (fun _ => False), T0, by grind, by grind, by grind, rfl, ⟨[.float .f64 bf], [.slice At x.t.length ct], rfl, (fun _ => False), T0, by grind, by grind, by grind, ⟨_, rfl, hbf, hff⟩, ⟨_, rfl, e0⟩⟩⟩⟩

theorem kEn_own {h : Hp} {S : Nat → Prop} {x : En} {bkey_f : Nat} {Akey_t : Option Addr} {ckey_t : Nat} (hbkey_f : bkey_f < 18446744073709551616) (hfkey_f : canonF bkey_f = x.key.f) (ho : sepL [rowA 5 kU8 x.key.t (.slice Akey_t x.key.t.length ckey_t)] h S) : kEn.ow h S x [.int .i64 x.key.kind, .int .i64 x.key.n, .float .f64 bkey_f, .slice Akey_t x.key.t.length ckey_t, .int .i64 x.id] := by
  obtain ⟨T0, U0, t0, u0, d0, o0, p0⟩ := ho
  have e0 := rowA_holds.1 o0
  have s0 : ∀ b, T0 b → S b := fun b tb => t0 b tb
  refine kEn.mono (S := T0) (by grind) ?_
  exact ⟨[.int .i64 x.key.kind, .int .i64 x.key.n, .float .f64 bkey_f, .slice Akey_t x.key.t.length ckey_t], [.int .i64 x.id], rfl, T0, (fun _ => False), by grind, by grind, by grind, (show kIt.ow h T0 (x.key) [.int .i64 x.key.kind, .int .i64 x.key.n, .float .f64 bkey_f, .slice Akey_t x.key.t.length ckey_t] from ⟨[.int .i64 x.key.kind], [.int .i64 x.key.n, .float .f64 bkey_f, .slice Akey_t x.key.t.length ckey_t], rfl, (fun _ => False), T0, by grind, by grind, by grind, rfl, ⟨[.int .i64 x.key.n], [.float .f64 bkey_f, .slice Akey_t x.key.t.length ckey_t], rfl, (fun _ => False), T0, by grind, by grind, by grind, rfl, ⟨[.float .f64 bkey_f], [.slice Akey_t x.key.t.length ckey_t], rfl, (fun _ => False), T0, by grind, by grind, by grind, ⟨_, rfl, hbkey_f, hfkey_f⟩, ⟨_, rfl, e0⟩⟩⟩⟩), rfl⟩

theorem kNd_own {h : Hp} {S : Nat → Prop} {x : Nd} {Aentries : Option Addr} {centries : Nat} {Akids : Option Addr} {ckids : Nat} (ho : sepL [rowA 3 kI64 x.kids (.slice Akids x.kids.length ckids), rowA 101 kEn x.entries (.slice Aentries x.entries.length centries)] h S) : kNd.ow h S x [.bool x.leaf, .slice Aentries x.entries.length centries, .slice Akids x.kids.length ckids] := by
  obtain ⟨T0, U0, t0, u0, d0, o0, p0⟩ := ho
  have e0 := rowA_holds.1 o0
  obtain ⟨T1, U1, t1, u1, d1, o1, p1⟩ := p0
  have e1 := rowA_holds.1 o1
  have s0 : ∀ b, T0 b → S b := fun b tb => t0 b tb
  have s1 : ∀ b, T1 b → S b := fun b tb => u0 b (t1 b tb)
  have n0_1 : ∀ b, T0 b → ¬ T1 b := fun b ta tb => d0 b ta (t1 b tb)
  refine kNd.mono (S := (fun b => T1 b ∨ T0 b)) (by grind) ?_
  exact ⟨[.bool x.leaf], [.slice Aentries x.entries.length centries, .slice Akids x.kids.length ckids], rfl, (fun _ => False), (fun b => T1 b ∨ T0 b), by grind, by grind, by grind, rfl, ⟨[.slice Aentries x.entries.length centries], [.slice Akids x.kids.length ckids], rfl, T1, T0, by grind, by grind, by grind, ⟨_, rfl, e1⟩, ⟨_, rfl, e0⟩⟩⟩

theorem kTr_own {h : Hp} {S : Nat → Prop} {x : Tr} {Anodes : Option Addr} {cnodes : Nat} (ho : sepL [rowA 96 kNd x.nodes (.slice Anodes x.nodes.length cnodes)] h S) : kTr.ow h S x [.slice Anodes x.nodes.length cnodes, .int .i64 x.root] := by
  obtain ⟨T0, U0, t0, u0, d0, o0, p0⟩ := ho
  have e0 := rowA_holds.1 o0
  have s0 : ∀ b, T0 b → S b := fun b tb => t0 b tb
  refine kTr.mono (S := T0) (by grind) ?_
  exact ⟨[.slice Anodes x.nodes.length cnodes], [.int .i64 x.root], rfl, T0, (fun _ => False), by grind, by grind, by grind, ⟨_, rfl, e0⟩, rfl⟩

theorem kEn_zero {h : Hp} : kEn.ow h (fun _ => False) ⟨⟨0, 0, 0, []⟩, 0⟩ [.int .i64 0, .int .i64 0, .float .f64 0, .slice none 0 0, .int .i64 0] :=
  kEn_own (x := ⟨⟨0, 0, 0, []⟩, 0⟩) (by decide) (by decide) ⟨fun _ => False, fun _ => False, fun _ h => h, fun _ h => h, fun _ h => h.elim, rowA_nil, trivial⟩
theorem kNd_zero {h : Hp} : kNd.ow h (fun _ => False) ⟨false, [], []⟩ [.bool false, .slice none 0 0, .slice none 0 0] :=
  kNd_own (x := ⟨false, [], []⟩) ⟨fun _ => False, fun _ => False, fun _ h => h, fun _ h => h, fun _ h => h.elim, rowA_nil, fun _ => False, fun _ => False, fun _ h => h, fun _ h => h, fun _ h => h.elim, rowA_nil, trivial⟩
theorem toByteS_ok (xs : List Int) (vxs : Value) (w : World) (hxs : rdRow kU8 w.heap xs vxs) (hz : xs.length ≤ 1048576) :
    Calls Try.prog 67 #[vxs] w fun e w' => ∃ (Ao : Option Addr) (co : Nat), e = .returned (.slice Ao xs.length co) ∧ Fresh w w' [rowA 5 kU8 xs (.slice Ao xs.length co)] := by
  obtain ⟨Axs, cxs, rfl⟩ := rdRow_form hxs
  refine enter (args := [.one (.v (.slice Axs xs.length cxs))]) Try.func67 (c := bodyOf Try.f67) rfl rfl (start_LOK _) (start_old w) ?_
  have hzl : xs.length ≤ 1048576 := by omega
  refine go mixed 2000 [0, 6] 0 (St.mk (Rg.sq [true, false] 2) [KI.code [true, true]] [(0, vS Axs xs.length cxs), (6, vI (↑xs.length : Int))] []) (by kernel_rfl) (by kernel_rfl) (by kernel_rfl) ?_
  refine make_at (d := kU8) xs.length 0 (zc := [.int .u8 0]) (by_ := 1) (e := 5) true (by kernel_rfl : atB _ _ _ true = some (Op.makeSlice 40 (tmpO 6) (tmpO 6), 40, some 7, Rg.sq [true, false] 3)) (by kernel_rfl) (by kernel_rfl) rfl rfl rfl rfl (by omega) (by simp [maxLen]; omega) (fun _ => rfl) ?_
  intro g
  refine go mixed 2000 [0, 3, 4] 0 (St.mk Rg.no [kLp (bitL 6 59), KI.block 0, kCd (bitL 3 7)] [(0, vS Axs xs.length cxs), (3, vS (some (Addr.mk g 0 none)) xs.length xs.length), (4, vI 0)] []) (by kernel_rfl) (by kernel_rfl) (by kernel_rfl) ?_
  refine loop_at (ι := Nat) (fun i => [(4, .one (.v (.int .i64 i)))]) (fun _ => []) (fun i => [rowA 5 kU8 (xs.take i ++ List.replicate (xs.length - i) 0) (.slice (some ⟨g, 0, none⟩) xs.length xs.length), oldA w]) (fun i => i ≤ xs.length) (fun i => xs.length - i) 0 rfl rfl (by simp) (Nat.zero_le _) ?_
  intro i hi ih
  have hfl : (xs.take i ++ List.replicate (xs.length - i) 0).length = xs.length := by simp; omega
  refine go mixed 2000 [0, 3, 4, 11] 0 (St.mk Rg.no [kCd (bitL 8 187), kCd (bitL 7 123), kLp (bitL 6 59), KI.block 0, kCd (bitL 3 7)] [(0, vS Axs xs.length cxs), (3, vS (some (Addr.mk g 0 none)) xs.length xs.length), (4, vI (↑i : Int)), (11, vB (decide ((↑i : Int) < (↑xs.length : Int))))] []) (by kernel_rfl) (by kernel_rfl) (by kernel_rfl) ?_
  refine split_at 11 (b := decide ((↑i : Int) < (↑xs.length : Int))) (by kernel_rfl) (by kernel_rfl) ?_ ?_
  rotate_left
  · intro hb1
    replace hb1 := of_decide_eq_false hb1
    refine go mixed 2000 [2] 0 (St.mk Rg.no [kCd (bitL 4 15)] [(2, vS (some (Addr.mk g 0 none)) xs.length xs.length)] []) (by kernel_rfl) (by kernel_rfl) (by kernel_rfl) ?_
    refine ret_ok (vs := [vS (some (Addr.mk g 0 none)) xs.length xs.length]) (by kernel_rfl) ?_
    intro L w1 hs
    have e1 : i = xs.length := (by omega); subst e1; simp only [List.take_length, Nat.sub_self, List.replicate_zero, List.append_nil] at hs; exact ⟨_, _, rfl, hs.out (As := [_])⟩
  intro hb1
  replace hb1 := of_decide_eq_true hb1
  refine go mixed 2000 [0, 3, 4, 14, 15, 16, 17] 0 (St.mk (Rg.sq (bitL 9 379) 4) [KI.block 1, kCd (bitL 8 251), kLp (bitL 6 59), KI.block 0, kCd (bitL 3 7)] [(0, vS Axs xs.length cxs), (3, vS (some (Addr.mk g 0 none)) xs.length xs.length), (4, vI (↑i : Int)), (14, vS (some (Addr.mk g 0 none)) xs.length xs.length), (15, vI (↑i : Int)), (16, vS Axs xs.length cxs), (17, vI (↑i : Int))] []) (by kernel_rfl) (by kernel_rfl) (by kernel_rfl) ?_
  refine index_at 4 (by kernel_rfl : atP _ _ _ 4 false = some (Op.indexAddr 40 (tmpO 16) (tmpO 17), 0, some 18, Rg.sq (bitL 9 379) 5)) (ni := i) (sz := 1) (by kernel_rfl) rfl rfl rfl (by omega) (fun L w1 hs => rd_some (i := i) (rdRow_ext (hs.old 1 rfl) hxs) (by omega)) ?_
  intro a_1 ha_1
  cases ha_1
  refine go mixed 2000 [0, 3, 4, 14, 15, 18] 0 (St.mk (Rg.sq (bitL 9 379) 5) [KI.block 1, kCd (bitL 8 251), kLp (bitL 6 59), KI.block 0, kCd (bitL 3 7)] [(0, vS (some a_1) xs.length cxs), (3, vS (some (Addr.mk g 0 none)) xs.length xs.length), (4, vI (↑i : Int)), (14, vS (some (Addr.mk g 0 none)) xs.length xs.length), (15, vI (↑i : Int)), (18, vP (a_1.add (i * 1)))] []) (by kernel_rfl) (by kernel_rfl) (by kernel_rfl) ?_
  refine load_one 5 (by kernel_rfl : atP _ _ _ 5 true = some (Op.load 5 (tmpO 18), 5, some 19, Rg.sq (bitL 9 379) 6)) (n := 1) (by kernel_rfl) rfl ?_
  intro L w1 hs
  refine ⟨.v (Value.int IntKind.u8 ((xs)[i]'(by omega))), rd_sc (rdRow_ext (hs.old 1 rfl) hxs) (by omega), ?_⟩
  clear hs
  refine go mixed 2000 [0, 3, 4, 14, 15, 19] 0 (St.mk (Rg.sq (bitL 9 379) 6) [KI.block 1, kCd (bitL 8 251), kLp (bitL 6 59), KI.block 0, kCd (bitL 3 7)] [(0, vS (some a_1) xs.length cxs), (3, vS (some (Addr.mk g 0 none)) xs.length xs.length), (4, vI (↑i : Int)), (14, vS (some (Addr.mk g 0 none)) xs.length xs.length), (15, vI (↑i : Int)), (19, SV.one (SC.v (Value.int IntKind.u8 xs[i])))] []) (by kernel_rfl) (by kernel_rfl) (by kernel_rfl) ?_
  refine index_at 6 (by kernel_rfl : atP _ _ _ 6 false = some (Op.indexAddr 40 (tmpO 14) (tmpO 15), 0, some 20, Rg.sq (bitL 9 379) 7)) (ni := i) (sz := 1) (by kernel_rfl) rfl rfl rfl (by omega) (fun L w1 hs => rd_some (i := i) (hs.rd 0 rfl) (by omega)) ?_
  intro a_2 ha_2
  cases ha_2
  refine go mixed 2000 [0, 3, 4, 19, 20] 0 (St.mk (Rg.sq (bitL 9 379) 7) [KI.block 1, kCd (bitL 8 251), kLp (bitL 6 59), KI.block 0, kCd (bitL 3 7)] [(0, vS (some a_1) xs.length cxs), (3, vS (some (Addr.mk g 0 none)) xs.length xs.length), (4, vI (↑i : Int)), (19, SV.one (SC.v (Value.int IntKind.u8 xs[i]))), (20, vP ((Addr.mk g 0 none).add (i * 1)))] []) (by kernel_rfl) (by kernel_rfl) (by kernel_rfl) ?_
  have hlt : i < xs.length := by omega
  refine store_el (A := []) (d := kU8) (y := xs[i]) (by kernel_rfl : atB _ _ _ false = some (Op.store 5 (tmpO 20) (tmpO 19), 0, none, Rg.sq (bitL 9 379) 8)) (by kernel_rfl) rfl rfl rfl rfl rfl (by simp; omega) (fun _ _ _ => rfl) ?_
  refine go mixed 2000 [0, 3, 4] 0 (St.mk Rg.no [kLp (bitL 6 59), KI.block 0, kCd (bitL 3 7)] [(0, vS (some a_1) xs.length cxs), (3, vS (some (Addr.mk g 0 none)) xs.length xs.length), (4, vI (IntKind.i64.wrap ((↑i : Int) + 1)))] []) (by kernel_rfl) (by kernel_rfl) (by kernel_rfl) ?_
  rw [wrap_succ (by omega), set_fill xs 0 hlt]
  exact ih (i + 1) hlt (by omega)

theorem toIntS_ok (xs : List Int) (vxs : Value) (w : World) (hxs : rdRow kI64 w.heap xs vxs) (hz : xs.length ≤ 1048576) :
    Calls Try.prog 139 #[vxs] w fun e w' => ∃ (Ao : Option Addr) (co : Nat), e = .returned (.slice Ao xs.length co) ∧ Fresh w w' [rowA 3 kI64 xs (.slice Ao xs.length co)] := by
  obtain ⟨Axs, cxs, rfl⟩ := rdRow_form hxs
  refine enter (args := [.one (.v (.slice Axs xs.length cxs))]) Try.func139 (c := bodyOf Try.f139) rfl rfl (start_LOK _) (start_old w) ?_
  have hzl : xs.length ≤ 1048576 := by omega
  refine go mixed 2000 [0, 6] 0 (St.mk (Rg.sq [true, false] 2) [KI.code [true, true]] [(0, vS Axs xs.length cxs), (6, vI (↑xs.length : Int))] []) (by kernel_rfl) (by kernel_rfl) (by kernel_rfl) ?_
  refine make_at (d := kI64) xs.length 0 (zc := [.int .i64 0]) (by_ := 8) (e := 3) true (by kernel_rfl : atB _ _ _ true = some (Op.makeSlice 44 (tmpO 6) (tmpO 6), 44, some 7, Rg.sq [true, false] 3)) (by kernel_rfl) (by kernel_rfl) rfl rfl rfl rfl (by omega) (by simp [maxLen]; omega) (fun _ => rfl) ?_
  intro g
  refine go mixed 2000 [0, 3, 4] 0 (St.mk Rg.no [kLp (bitL 6 59), KI.block 0, kCd (bitL 3 7)] [(0, vS Axs xs.length cxs), (3, vS (some (Addr.mk g 0 none)) xs.length xs.length), (4, vI 0)] []) (by kernel_rfl) (by kernel_rfl) (by kernel_rfl) ?_
  refine loop_at (ι := Nat) (fun i => [(4, .one (.v (.int .i64 i)))]) (fun _ => []) (fun i => [rowA 3 kI64 (xs.take i ++ List.replicate (xs.length - i) 0) (.slice (some ⟨g, 0, none⟩) xs.length xs.length), oldA w]) (fun i => i ≤ xs.length) (fun i => xs.length - i) 0 rfl rfl (by simp) (Nat.zero_le _) ?_
  intro i hi ih
  have hfl : (xs.take i ++ List.replicate (xs.length - i) 0).length = xs.length := by simp; omega
  refine go mixed 2000 [0, 3, 4, 11] 0 (St.mk Rg.no [kCd (bitL 8 187), kCd (bitL 7 123), kLp (bitL 6 59), KI.block 0, kCd (bitL 3 7)] [(0, vS Axs xs.length cxs), (3, vS (some (Addr.mk g 0 none)) xs.length xs.length), (4, vI (↑i : Int)), (11, vB (decide ((↑i : Int) < (↑xs.length : Int))))] []) (by kernel_rfl) (by kernel_rfl) (by kernel_rfl) ?_
  refine split_at 11 (b := decide ((↑i : Int) < (↑xs.length : Int))) (by kernel_rfl) (by kernel_rfl) ?_ ?_
  rotate_left
  · intro hb1
    replace hb1 := of_decide_eq_false hb1
    refine go mixed 2000 [2] 0 (St.mk Rg.no [kCd (bitL 4 15)] [(2, vS (some (Addr.mk g 0 none)) xs.length xs.length)] []) (by kernel_rfl) (by kernel_rfl) (by kernel_rfl) ?_
    refine ret_ok (vs := [vS (some (Addr.mk g 0 none)) xs.length xs.length]) (by kernel_rfl) ?_
    intro L w1 hs
    have e1 : i = xs.length := (by omega); subst e1; simp only [List.take_length, Nat.sub_self, List.replicate_zero, List.append_nil] at hs; exact ⟨_, _, rfl, hs.out (As := [_])⟩
  intro hb1
  replace hb1 := of_decide_eq_true hb1
  refine go mixed 2000 [0, 3, 4, 14, 15, 16, 17] 0 (St.mk (Rg.sq (bitL 9 379) 4) [KI.block 1, kCd (bitL 8 251), kLp (bitL 6 59), KI.block 0, kCd (bitL 3 7)] [(0, vS Axs xs.length cxs), (3, vS (some (Addr.mk g 0 none)) xs.length xs.length), (4, vI (↑i : Int)), (14, vS (some (Addr.mk g 0 none)) xs.length xs.length), (15, vI (↑i : Int)), (16, vS Axs xs.length cxs), (17, vI (↑i : Int))] []) (by kernel_rfl) (by kernel_rfl) (by kernel_rfl) ?_
  refine index_at 4 (by kernel_rfl : atP _ _ _ 4 false = some (Op.indexAddr 44 (tmpO 16) (tmpO 17), 0, some 18, Rg.sq (bitL 9 379) 5)) (ni := i) (sz := 1) (by kernel_rfl) rfl rfl rfl (by omega) (fun L w1 hs => rd_some (i := i) (rdRow_ext (hs.old 1 rfl) hxs) (by omega)) ?_
  intro a_1 ha_1
  cases ha_1
  refine go mixed 2000 [0, 3, 4, 14, 15, 18] 0 (St.mk (Rg.sq (bitL 9 379) 5) [KI.block 1, kCd (bitL 8 251), kLp (bitL 6 59), KI.block 0, kCd (bitL 3 7)] [(0, vS (some a_1) xs.length cxs), (3, vS (some (Addr.mk g 0 none)) xs.length xs.length), (4, vI (↑i : Int)), (14, vS (some (Addr.mk g 0 none)) xs.length xs.length), (15, vI (↑i : Int)), (18, vP (a_1.add (i * 1)))] []) (by kernel_rfl) (by kernel_rfl) (by kernel_rfl) ?_
  refine load_one 5 (by kernel_rfl : atP _ _ _ 5 true = some (Op.load 3 (tmpO 18), 3, some 19, Rg.sq (bitL 9 379) 6)) (n := 1) (by kernel_rfl) rfl ?_
  intro L w1 hs
  refine ⟨.v (Value.int IntKind.i64 ((xs)[i]'(by omega))), rd_sc (rdRow_ext (hs.old 1 rfl) hxs) (by omega), ?_⟩
  clear hs
  refine go mixed 2000 [0, 3, 4, 14, 15, 19] 0 (St.mk (Rg.sq (bitL 9 379) 6) [KI.block 1, kCd (bitL 8 251), kLp (bitL 6 59), KI.block 0, kCd (bitL 3 7)] [(0, vS (some a_1) xs.length cxs), (3, vS (some (Addr.mk g 0 none)) xs.length xs.length), (4, vI (↑i : Int)), (14, vS (some (Addr.mk g 0 none)) xs.length xs.length), (15, vI (↑i : Int)), (19, vI xs[i])] []) (by kernel_rfl) (by kernel_rfl) (by kernel_rfl) ?_
  refine index_at 6 (by kernel_rfl : atP _ _ _ 6 false = some (Op.indexAddr 44 (tmpO 14) (tmpO 15), 0, some 20, Rg.sq (bitL 9 379) 7)) (ni := i) (sz := 1) (by kernel_rfl) rfl rfl rfl (by omega) (fun L w1 hs => rd_some (i := i) (hs.rd 0 rfl) (by omega)) ?_
  intro a_2 ha_2
  cases ha_2
  refine go mixed 2000 [0, 3, 4, 19, 20] 0 (St.mk (Rg.sq (bitL 9 379) 7) [KI.block 1, kCd (bitL 8 251), kLp (bitL 6 59), KI.block 0, kCd (bitL 3 7)] [(0, vS (some a_1) xs.length cxs), (3, vS (some (Addr.mk g 0 none)) xs.length xs.length), (4, vI (↑i : Int)), (19, vI xs[i]), (20, vP ((Addr.mk g 0 none).add (i * 1)))] []) (by kernel_rfl) (by kernel_rfl) (by kernel_rfl) ?_
  have hlt : i < xs.length := by omega
  refine store_el (A := []) (d := kI64) (y := xs[i]) (by kernel_rfl : atB _ _ _ false = some (Op.store 3 (tmpO 20) (tmpO 19), 0, none, Rg.sq (bitL 9 379) 8)) (by kernel_rfl) rfl rfl rfl rfl rfl (by simp; omega) (fun _ _ _ => rfl) ?_
  refine go mixed 2000 [0, 3, 4] 0 (St.mk Rg.no [kLp (bitL 6 59), KI.block 0, kCd (bitL 3 7)] [(0, vS (some a_1) xs.length cxs), (3, vS (some (Addr.mk g 0 none)) xs.length xs.length), (4, vI (IntKind.i64.wrap ((↑i : Int) + 1)))] []) (by kernel_rfl) (by kernel_rfl) (by kernel_rfl) ?_
  rw [wrap_succ (by omega), set_fill xs 0 hlt]
  exact ih (i + 1) hlt (by omega)

theorem toItem_ok (x : It) (csx : List Value) (w : World) (hx : kIt.rd w.heap x csx) (hz : zIt x ≤ 1048576) :
    Calls Try.prog 27 #[.agg csx.toArray] w fun e w' => ∃ (bof : Nat) (Aot : Option Addr) (cot : Nat), e = .returned (.agg #[.int .i64 x.kind, .int .i64 x.n, .float .f64 bof, .slice Aot x.t.length cot]) ∧ Fresh w w' [rowA 5 kU8 x.t (.slice Aot x.t.length cot)] ∧ bof < 18446744073709551616 ∧ canonF bof = x.f := by
  obtain ⟨bxf, Axt, cxt, rfl, hbxf, hfxf, hrxt⟩ := kIt_inv hx
  refine enter (args := [.agg [.v (.int .i64 x.kind), .v (.int .i64 x.n), .v (.float .f64 bxf), .v (.slice Axt x.t.length cxt)]]) Try.func27 (c := bodyOf Try.f27) rfl rfl (start_LOK _) (start_old w) ?_
  have hzz : zIt x = x.t.length := rfl
  refine go mixed 2000 [2, 3, 14] 3 (St.mk (Rg.sq (bitL 6 31) 2) [kCd (bitL 6 63)] [(2, vR 1 0), (3, vR 2 0), (14, vS Axt x.t.length cxt)] [LB.mk [cI x.kind, cI x.n, cF bxf, cS Axt x.t.length cxt] 42, LB.mk [cI 0, cI 0, cF 0, cS none 0 0] 46, LB.mk [cI x.kind, cI x.n, cF bxf, cS none 0 0] 46]) (by kernel_rfl) (by kernel_rfl) (by kernel_rfl) ?_
  refine call_at true (by kernel_rfl : atC _ _ _ true = some (67, [vS Axt x.t.length cxt], some 15, Rg.sq (bitL 6 31) 3)) (by kernel_rfl) (fun L w1 hs => (Go.Proofs.Ytgleoebogikooaa.Dk.toByteS_ok (x.t) (Value.slice Axt x.t.length cxt) w1 (rdRow_ext (hs.old 0 rfl) hrxt) (by assumption)).mono ?_)
  rintro e_ w2_ ⟨Ao_1, co_1, rfl, hf_⟩
  refine ⟨.one (.v (Value.slice Ao_1 x.t.length co_1)), _, _, rfl, fun _ => hf_.1.block, hs.fresh hf_, ?_⟩
  clear hs hf_
  refine go mixed 2000 [2] 2 (St.mk Rg.no [kCd (bitL 7 127)] [(2, vR 1 0)] [LB.mk [cI x.kind, cI x.n, cF bxf, cS Axt x.t.length cxt] 42, LB.mk [cI x.kind, cI x.n, cF bxf, cS Ao_1 x.t.length co_1] 46]) (by kernel_rfl) (by kernel_rfl) (by kernel_rfl) ?_
  refine ret_ok (vs := [SV.agg [cI x.kind, cI x.n, cF bxf, cS Ao_1 x.t.length co_1]]) (by kernel_rfl) ?_
  intro L w1 hs
  exact ⟨_, _, _, rfl, hs.out (As := [_]), by assumption, by assumption⟩

theorem toEntry_ok (x : En) (csx : List Value) (w : World) (hx : kEn.rd w.heap x csx) (hz : zEn x ≤ 1048576) :
    Calls Try.prog 175 #[.agg csx.toArray] w fun e w' => ∃ (bokey_f : Nat) (Aokey_t : Option Addr) (cokey_t : Nat), e = .returned (.agg #[.int .i64 x.key.kind, .int .i64 x.key.n, .float .f64 bokey_f, .slice Aokey_t x.key.t.length cokey_t, .int .i64 x.id]) ∧ Fresh w w' [rowA 5 kU8 x.key.t (.slice Aokey_t x.key.t.length cokey_t)] ∧ bokey_f < 18446744073709551616 ∧ canonF bokey_f = x.key.f := by
  obtain ⟨bxkey_f, Axkey_t, cxkey_t, rfl, hbxkey_f, hfxkey_f, hrxkey_t⟩ := kEn_inv hx
  refine enter (args := [.agg [.v (.int .i64 x.key.kind), .v (.int .i64 x.key.n), .v (.float .f64 bxkey_f), .v (.slice Axkey_t x.key.t.length cxkey_t), .v (.int .i64 x.id)]]) Try.func175 (c := bodyOf Try.f175) rfl rfl (start_LOK _) (start_old w) ?_
  have hzz : zEn x = zIt x.key := rfl
  refine go mixed 2000 [1, 2, 3, 5] 3 (St.mk (Rg.sq (bitL 3 3) 2) [kCd (bitL 3 7)] [(1, vR 0 0), (2, vR 1 0), (3, vR 2 0), (5, SV.agg [cI x.key.kind, cI x.key.n, cF bxkey_f, cS Axkey_t x.key.t.length cxkey_t])] [LB.mk [cI x.key.kind, cI x.key.n, cF bxkey_f, cS Axkey_t x.key.t.length cxkey_t, cI x.id] 185, LB.mk [cI 0, cI 0, cF 0, cS none 0 0, cI 0] 101, LB.mk [cI 0, cI 0, cF 0, cS none 0 0, cI 0] 101]) (by kernel_rfl) (by kernel_rfl) (by kernel_rfl) ?_
  refine call_at true (by kernel_rfl : atC _ _ _ true = some (27, [SV.agg [cI x.key.kind, cI x.key.n, cF bxkey_f, cS Axkey_t x.key.t.length cxkey_t]], some 6, Rg.sq (bitL 3 3) 3)) (by kernel_rfl) (fun L w1 hs => (Go.Proofs.Ytgleoebogikooaa.Dk.toItem_ok (x.key) ([Value.int IntKind.i64 x.key.kind, Value.int IntKind.i64 x.key.n, Value.float FloatKind.f64 bxkey_f, Value.slice Axkey_t x.key.t.length cxkey_t]) w1 (Go.Proofs.Ytgleoebogikooaa.Dk.kIt_mk (by assumption) hfxkey_f (rdRow_ext (hs.old 0 rfl) hrxkey_t)) (by assumption)).mono ?_)
  rintro e_ w2_ ⟨bof_1, Aot_1, cot_1, rfl, hf_, hq1, hq2⟩
  refine ⟨.agg [.v (Value.int IntKind.i64 x.key.kind), .v (Value.int IntKind.i64 x.key.n), .v (Value.float FloatKind.f64 bof_1), .v (Value.slice Aot_1 x.key.t.length cot_1)], _, _, rfl, fun _ => hf_.1.block, hs.fresh hf_, ?_⟩
  clear hs hf_
  refine go mixed 2000 [2] 2 (St.mk Rg.no [kCd (bitL 5 31)] [(2, vR 1 0)] [LB.mk [cI x.key.kind, cI x.key.n, cF bxkey_f, cS Axkey_t x.key.t.length cxkey_t, cI x.id] 185, LB.mk [cI x.key.kind, cI x.key.n, cF bof_1, cS Aot_1 x.key.t.length cot_1, cI x.id] 101]) (by kernel_rfl) (by kernel_rfl) (by kernel_rfl) ?_
  refine ret_ok (vs := [SV.agg [cI x.key.kind, cI x.key.n, cF bof_1, cS Aot_1 x.key.t.length cot_1, cI x.id]]) (by kernel_rfl) ?_
  intro L w1 hs
  exact ⟨_, _, _, rfl, hs.out (As := [_]), by assumption, by assumption⟩

theorem toEntryS_ok (xs : List En) (vxs : Value) (w : World) (hxs : rdRow kEn w.heap xs vxs) (hz : zRow zEn xs ≤ 1048576) :
    Calls Try.prog 138 #[vxs] w fun e w' => ∃ (Ao : Option Addr) (co : Nat), e = .returned (.slice Ao xs.length co) ∧ Fresh w w' [rowA 101 kEn xs (.slice Ao xs.length co)] := by
  obtain ⟨Axs, cxs, rfl⟩ := rdRow_form hxs
  refine enter (args := [.one (.v (.slice Axs xs.length cxs))]) Try.func138 (c := bodyOf Try.f138) rfl rfl (start_LOK _) (start_old w) ?_
  have hzz : zRow zEn xs = xs.length + (xs.map zEn).sum := rfl
  have sd_1 : ∀ (j : Nat) (h : j < xs.length), zEn xs[j] ≤ 1048576 := fun j h => by have := z_le zEn xs (List.getElem_mem h); omega
  have hzl : xs.length ≤ 1048576 := by omega
  refine go mixed 2000 [0, 6] 0 (St.mk (Rg.sq [true, false] 2) [KI.code [true, true]] [(0, vS Axs xs.length cxs), (6, vI (↑xs.length : Int))] []) (by kernel_rfl) (by kernel_rfl) (by kernel_rfl) ?_
  refine make_at (d := kEn) xs.length (⟨⟨0, 0, 0, []⟩, 0⟩ : En) (zc := [.int .i64 0, .int .i64 0, .float .f64 0, .slice none 0 0, .int .i64 0]) (by_ := 56) (e := 101) true (by kernel_rfl : atB _ _ _ true = some (Op.makeSlice 34 (tmpO 6) (tmpO 6), 34, some 7, Rg.sq [true, false] 3)) (by kernel_rfl) (by kernel_rfl) rfl rfl rfl rfl (by omega) (by simp [maxLen]; omega) (fun _ => kEn_zero) ?_
  intro g
  refine go mixed 2000 [0, 3, 4] 0 (St.mk Rg.no [kLp (bitL 6 59), KI.block 0, kCd (bitL 3 7)] [(0, vS Axs xs.length cxs), (3, vS (some (Addr.mk g 0 none)) xs.length xs.length), (4, vI 0)] []) (by kernel_rfl) (by kernel_rfl) (by kernel_rfl) ?_
  refine loop_at (ι := Nat) (fun i => [(4, .one (.v (.int .i64 i)))]) (fun _ => []) (fun i => [rowA 101 kEn (xs.take i ++ List.replicate (xs.length - i) (⟨⟨0, 0, 0, []⟩, 0⟩ : En)) (.slice (some ⟨g, 0, none⟩) xs.length xs.length), oldA w]) (fun i => i ≤ xs.length) (fun i => xs.length - i) 0 rfl rfl (by simp) (Nat.zero_le _) ?_
  intro i hi ih
  have hfl : (xs.take i ++ List.replicate (xs.length - i) (⟨⟨0, 0, 0, []⟩, 0⟩ : En)).length = xs.length := by simp; omega
  refine go mixed 2000 [0, 3, 4, 11] 0 (St.mk Rg.no [kCd (bitL 8 187), kCd (bitL 7 123), kLp (bitL 6 59), KI.block 0, kCd (bitL 3 7)] [(0, vS Axs xs.length cxs), (3, vS (some (Addr.mk g 0 none)) xs.length xs.length), (4, vI (↑i : Int)), (11, vB (decide ((↑i : Int) < (↑xs.length : Int))))] []) (by kernel_rfl) (by kernel_rfl) (by kernel_rfl) ?_
  refine split_at 11 (b := decide ((↑i : Int) < (↑xs.length : Int))) (by kernel_rfl) (by kernel_rfl) ?_ ?_
  rotate_left
  · intro hb1
    replace hb1 := of_decide_eq_false hb1
    refine go mixed 2000 [2] 0 (St.mk Rg.no [kCd (bitL 4 15)] [(2, vS (some (Addr.mk g 0 none)) xs.length xs.length)] []) (by kernel_rfl) (by kernel_rfl) (by kernel_rfl) ?_
    refine ret_ok (vs := [vS (some (Addr.mk g 0 none)) xs.length xs.length]) (by kernel_rfl) ?_
    intro L w1 hs
    have e1 : i = xs.length := (by omega); subst e1; simp only [List.take_length, Nat.sub_self, List.replicate_zero, List.append_nil] at hs; exact ⟨_, _, rfl, hs.out (As := [_])⟩
  intro hb1
  replace hb1 := of_decide_eq_true hb1
  refine go mixed 2000 [0, 3, 4, 14, 15, 16, 17] 0 (St.mk (Rg.sq (bitL 9 379) 4) [KI.block 1, kCd (bitL 8 251), kLp (bitL 6 59), KI.block 0, kCd (bitL 3 7)] [(0, vS Axs xs.length cxs), (3, vS (some (Addr.mk g 0 none)) xs.length xs.length), (4, vI (↑i : Int)), (14, vS (some (Addr.mk g 0 none)) xs.length xs.length), (15, vI (↑i : Int)), (16, vS Axs xs.length cxs), (17, vI (↑i : Int))] []) (by kernel_rfl) (by kernel_rfl) (by kernel_rfl) ?_
  refine index_at 4 (by kernel_rfl : atP _ _ _ 4 false = some (Op.indexAddr 133 (tmpO 16) (tmpO 17), 0, some 18, Rg.sq (bitL 9 379) 5)) (ni := i) (sz := 5) (by kernel_rfl) rfl rfl rfl (by omega) (fun L w1 hs => rd_some (i := i) (rdRow_ext (hs.old 1 rfl) hxs) (by omega)) ?_
  intro a_1 ha_1
  cases ha_1
  refine go mixed 2000 [0, 3, 4, 14, 15, 18] 0 (St.mk (Rg.sq (bitL 9 379) 5) [KI.block 1, kCd (bitL 8 251), kLp (bitL 6 59), KI.block 0, kCd (bitL 3 7)] [(0, vS (some a_1) xs.length cxs), (3, vS (some (Addr.mk g 0 none)) xs.length xs.length), (4, vI (↑i : Int)), (14, vS (some (Addr.mk g 0 none)) xs.length xs.length), (15, vI (↑i : Int)), (18, vP (a_1.add (i * 5)))] []) (by kernel_rfl) (by kernel_rfl) (by kernel_rfl) ?_
  obtain ⟨bkey_f_el1, Akey_t_el1, ckey_t_el1, hr1_el1, hr2_el1, hr3_el1, hc_el1⟩ := Go.Proofs.Ytgleoebogikooaa.Dk.kEn_at (i := i) hxs (by omega)
  refine load_agg 5 (by kernel_rfl : atP _ _ _ 5 true = some (Op.load 185 (tmpO 18), 185, some 19, Rg.sq (bitL 9 379) 6)) (n := 5) (by kernel_rfl) rfl ?_
  intro L w1 hs
  refine ⟨[.v (Value.int IntKind.i64 xs[i].key.kind), .v (Value.int IntKind.i64 xs[i].key.n), .v (Value.float FloatKind.f64 bkey_f_el1), .v (Value.slice Akey_t_el1 xs[i].key.t.length ckey_t_el1), .v (Value.int IntKind.i64 xs[i].id)], rfl, cells_at0 (cellsH_ext (hs.old 1 rfl) hc_el1) rfl, ?_⟩
  clear hs
  refine go mixed 2000 [0, 3, 4, 14, 15, 19] 0 (St.mk (Rg.sq (bitL 9 379) 6) [KI.block 1, kCd (bitL 8 251), kLp (bitL 6 59), KI.block 0, kCd (bitL 3 7)] [(0, vS (some a_1) xs.length cxs), (3, vS (some (Addr.mk g 0 none)) xs.length xs.length), (4, vI (↑i : Int)), (14, vS (some (Addr.mk g 0 none)) xs.length xs.length), (15, vI (↑i : Int)), (19, SV.agg [cI xs[i].key.kind, cI xs[i].key.n, cF bkey_f_el1, cS Akey_t_el1 xs[i].key.t.length ckey_t_el1, cI xs[i].id])] []) (by kernel_rfl) (by kernel_rfl) (by kernel_rfl) ?_
  refine call_at true (by kernel_rfl : atC _ _ _ true = some (175, [SV.agg [cI xs[i].key.kind, cI xs[i].key.n, cF bkey_f_el1, cS Akey_t_el1 xs[i].key.t.length ckey_t_el1, cI xs[i].id]], some 20, Rg.sq (bitL 9 379) 7)) (by kernel_rfl) (fun L w1 hs => (Go.Proofs.Ytgleoebogikooaa.Dk.toEntry_ok (xs[i]) ([Value.int IntKind.i64 xs[i].key.kind, Value.int IntKind.i64 xs[i].key.n, Value.float FloatKind.f64 bkey_f_el1, Value.slice Akey_t_el1 xs[i].key.t.length ckey_t_el1, Value.int IntKind.i64 xs[i].id]) w1 (Go.Proofs.Ytgleoebogikooaa.Dk.kEn_mk (by assumption) hr2_el1 (rdRow_ext (hs.old 1 rfl) hr3_el1)) (by exact sd_1 _ _)).mono ?_)
  rintro e_ w2_ ⟨bokey_1, Aokey_1, cokey_1, rfl, hf_, hq1, hq2⟩
  refine ⟨.agg [.v (Value.int IntKind.i64 xs[i].key.kind), .v (Value.int IntKind.i64 xs[i].key.n), .v (Value.float FloatKind.f64 bokey_1), .v (Value.slice Aokey_1 xs[i].key.t.length cokey_1), .v (Value.int IntKind.i64 xs[i].id)], _, _, rfl, fun _ => hf_.1.block, hs.fresh hf_, ?_⟩
  clear hs hf_
  refine go mixed 2000 [0, 3, 4, 14, 15, 20] 0 (St.mk (Rg.sq (bitL 9 379) 7) [KI.block 1, kCd (bitL 8 251), kLp (bitL 6 59), KI.block 0, kCd (bitL 3 7)] [(0, vS (some a_1) xs.length cxs), (3, vS (some (Addr.mk g 0 none)) xs.length xs.length), (4, vI (↑i : Int)), (14, vS (some (Addr.mk g 0 none)) xs.length xs.length), (15, vI (↑i : Int)), (20, SV.agg [cI xs[i].key.kind, cI xs[i].key.n, cF bokey_1, cS Aokey_1 xs[i].key.t.length cokey_1, cI xs[i].id])] []) (by kernel_rfl) (by kernel_rfl) (by kernel_rfl) ?_
  refine index_at 7 (by kernel_rfl : atP _ _ _ 7 false = some (Op.indexAddr 34 (tmpO 14) (tmpO 15), 0, some 21, Rg.sq (bitL 9 379) 8)) (ni := i) (sz := 5) (by kernel_rfl) rfl rfl rfl (by omega) (fun L w1 hs => rd_some (i := i) (hs.rd 1 rfl) (by omega)) ?_
  intro a_2 ha_2
  cases ha_2
  refine go mixed 2000 [0, 3, 4, 20, 21] 0 (St.mk (Rg.sq (bitL 9 379) 8) [KI.block 1, kCd (bitL 8 251), kLp (bitL 6 59), KI.block 0, kCd (bitL 3 7)] [(0, vS (some a_1) xs.length cxs), (3, vS (some (Addr.mk g 0 none)) xs.length xs.length), (4, vI (↑i : Int)), (20, SV.agg [cI xs[i].key.kind, cI xs[i].key.n, cF bokey_1, cS Aokey_1 xs[i].key.t.length cokey_1, cI xs[i].id]), (21, vP ((Addr.mk g 0 none).add (i * 5)))] []) (by kernel_rfl) (by kernel_rfl) (by kernel_rfl) ?_
  have hlt : i < xs.length := by omega
  refine h_bring 1 rfl ?_
  refine store_el (A := [_]) (d := kEn) (y := xs[i]) (by kernel_rfl : atB _ _ _ false = some (Op.store 101 (tmpO 21) (tmpO 20), 0, none, Rg.sq (bitL 9 379) 9)) (by kernel_rfl) rfl rfl rfl rfl rfl (by simp; omega) (fun h S hA => kEn_own (by assumption) (by assumption) hA) ?_
  refine go mixed 2000 [0, 3, 4] 0 (St.mk Rg.no [kLp (bitL 6 59), KI.block 0, kCd (bitL 3 7)] [(0, vS (some a_1) xs.length cxs), (3, vS (some (Addr.mk g 0 none)) xs.length xs.length), (4, vI (IntKind.i64.wrap ((↑i : Int) + 1)))] []) (by kernel_rfl) (by kernel_rfl) (by kernel_rfl) ?_
  rw [wrap_succ (by omega), set_fill xs (⟨⟨0, 0, 0, []⟩, 0⟩ : En) hlt]
  exact ih (i + 1) hlt (by omega)

theorem toNode_ok (x : Nd) (csx : List Value) (w : World) (hx : kNd.rd w.heap x csx) (hz : zNd x ≤ 1048576) :
    Calls Try.prog 98 #[.agg csx.toArray] w fun e w' => ∃ (Aoentries : Option Addr) (coentries : Nat) (Aokids : Option Addr) (cokids : Nat), e = .returned (.agg #[.bool x.leaf, .slice Aoentries x.entries.length coentries, .slice Aokids x.kids.length cokids]) ∧ Fresh w w' [rowA 3 kI64 x.kids (.slice Aokids x.kids.length cokids), rowA 101 kEn x.entries (.slice Aoentries x.entries.length coentries)] := by
  obtain ⟨Axentries, cxentries, Axkids, cxkids, rfl, hrxentries, hrxkids⟩ := kNd_inv hx
  refine enter (args := [.agg [.bo x.leaf, .v (.slice Axentries x.entries.length cxentries), .v (.slice Axkids x.kids.length cxkids)]]) Try.func98 (c := bodyOf Try.f98) rfl rfl (start_LOK _) (start_old w) ?_
  have hzz : zNd x = zRow zEn x.entries + x.kids.length := rfl
  refine go mixed 2000 [1, 2, 3, 8] 3 (St.mk (Rg.sq (bitL 4 7) 2) [kCd (bitL 4 15)] [(1, vR 0 0), (2, vR 1 0), (3, vR 2 0), (8, vS Axentries x.entries.length cxentries)] [LB.mk [SC.bo x.leaf, cS Axentries x.entries.length cxentries, cS Axkids x.kids.length cxkids] 135, LB.mk [SC.v (Value.bool false), cS none 0 0, cS none 0 0] 96, LB.mk [SC.bo x.leaf, cS none 0 0, cS none 0 0] 96]) (by kernel_rfl) (by kernel_rfl) (by kernel_rfl) ?_
  refine call_at true (by kernel_rfl : atC _ _ _ true = some (138, [vS Axentries x.entries.length cxentries], some 9, Rg.sq (bitL 4 7) 3)) (by kernel_rfl) (fun L w1 hs => (Go.Proofs.Ytgleoebogikooaa.Dk.toEntryS_ok (x.entries) (Value.slice Axentries x.entries.length cxentries) w1 (rdRow_ext (hs.old 0 rfl) hrxentries) (by omega)).mono ?_)
  rintro e_ w2_ ⟨Ao_1, co_1, rfl, hf_⟩
  refine ⟨.one (.v (Value.slice Ao_1 x.entries.length co_1)), _, _, rfl, fun _ => hf_.1.block, hs.fresh hf_, ?_⟩
  clear hs hf_
  refine go mixed 2000 [2, 3, 12] 3 (St.mk (Rg.sq (bitL 5 15) 2) [kCd (bitL 5 31)] [(2, vR 1 0), (3, vR 2 0), (12, vS Axkids x.kids.length cxkids)] [LB.mk [SC.bo x.leaf, cS Axentries x.entries.length cxentries, cS Axkids x.kids.length cxkids] 135, LB.mk [SC.v (Value.bool false), cS none 0 0, cS none 0 0] 96, LB.mk [SC.bo x.leaf, cS Ao_1 x.entries.length co_1, cS none 0 0] 96]) (by kernel_rfl) (by kernel_rfl) (by kernel_rfl) ?_
  refine call_at true (by kernel_rfl : atC _ _ _ true = some (139, [vS Axkids x.kids.length cxkids], some 13, Rg.sq (bitL 5 15) 3)) (by kernel_rfl) (fun L w1 hs => (Go.Proofs.Ytgleoebogikooaa.Dk.toIntS_ok (x.kids) (Value.slice Axkids x.kids.length cxkids) w1 (rdRow_ext (hs.old 1 rfl) hrxkids) (by omega)).mono ?_)
  rintro e_ w2_ ⟨Ao_2, co_2, rfl, hf_⟩
  refine ⟨.one (.v (Value.slice Ao_2 x.kids.length co_2)), _, _, rfl, fun _ => hf_.1.block, hs.fresh hf_, ?_⟩
  clear hs hf_
  refine go mixed 2000 [2] 2 (St.mk Rg.no [kCd (bitL 6 63)] [(2, vR 1 0)] [LB.mk [SC.bo x.leaf, cS Axentries x.entries.length cxentries, cS Axkids x.kids.length cxkids] 135, LB.mk [SC.bo x.leaf, cS Ao_1 x.entries.length co_1, cS Ao_2 x.kids.length co_2] 96]) (by kernel_rfl) (by kernel_rfl) (by kernel_rfl) ?_
  refine ret_ok (vs := [SV.agg [SC.bo x.leaf, cS Ao_1 x.entries.length co_1, cS Ao_2 x.kids.length co_2]]) (by kernel_rfl) ?_
  intro L w1 hs
  exact ⟨_, _, _, _, rfl, hs.out (As := [_, _])⟩

theorem toNodeS_ok (xs : List Nd) (vxs : Value) (w : World) (hxs : rdRow kNd w.heap xs vxs) (hz : zRow zNd xs ≤ 1048576) :
    Calls Try.prog 54 #[vxs] w fun e w' => ∃ (Ao : Option Addr) (co : Nat), e = .returned (.slice Ao xs.length co) ∧ Fresh w w' [rowA 96 kNd xs (.slice Ao xs.length co)] := by
  obtain ⟨Axs, cxs, rfl⟩ := rdRow_form hxs
  refine enter (args := [.one (.v (.slice Axs xs.length cxs))]) Try.func54 (c := bodyOf Try.f54) rfl rfl (start_LOK _) (start_old w) ?_
  have hzz : zRow zNd xs = xs.length + (xs.map zNd).sum := rfl
  have sd_1 : ∀ (j : Nat) (h : j < xs.length), zNd xs[j] ≤ 1048576 := fun j h => by have := z_le zNd xs (List.getElem_mem h); omega
  have hzl : xs.length ≤ 1048576 := by omega
  refine go mixed 2000 [0, 6] 0 (St.mk (Rg.sq [true, false] 2) [KI.code [true, true]] [(0, vS Axs xs.length cxs), (6, vI (↑xs.length : Int))] []) (by kernel_rfl) (by kernel_rfl) (by kernel_rfl) ?_
  refine make_at (d := kNd) xs.length (⟨false, [], []⟩ : Nd) (zc := [.bool false, .slice none 0 0, .slice none 0 0]) (by_ := 56) (e := 96) true (by kernel_rfl : atB _ _ _ true = some (Op.makeSlice 27 (tmpO 6) (tmpO 6), 27, some 7, Rg.sq [true, false] 3)) (by kernel_rfl) (by kernel_rfl) rfl rfl rfl rfl (by omega) (by simp [maxLen]; omega) (fun _ => kNd_zero) ?_
  intro g
  refine go mixed 2000 [0, 3, 4] 0 (St.mk Rg.no [kLp (bitL 6 59), KI.block 0, kCd (bitL 3 7)] [(0, vS Axs xs.length cxs), (3, vS (some (Addr.mk g 0 none)) xs.length xs.length), (4, vI 0)] []) (by kernel_rfl) (by kernel_rfl) (by kernel_rfl) ?_
  refine loop_at (ι := Nat) (fun i => [(4, .one (.v (.int .i64 i)))]) (fun _ => []) (fun i => [rowA 96 kNd (xs.take i ++ List.replicate (xs.length - i) (⟨false, [], []⟩ : Nd)) (.slice (some ⟨g, 0, none⟩) xs.length xs.length), oldA w]) (fun i => i ≤ xs.length) (fun i => xs.length - i) 0 rfl rfl (by simp) (Nat.zero_le _) ?_
  intro i hi ih
  have hfl : (xs.take i ++ List.replicate (xs.length - i) (⟨false, [], []⟩ : Nd)).length = xs.length := by simp; omega
  refine go mixed 2000 [0, 3, 4, 11] 0 (St.mk Rg.no [kCd (bitL 8 187), kCd (bitL 7 123), kLp (bitL 6 59), KI.block 0, kCd (bitL 3 7)] [(0, vS Axs xs.length cxs), (3, vS (some (Addr.mk g 0 none)) xs.length xs.length), (4, vI (↑i : Int)), (11, vB (decide ((↑i : Int) < (↑xs.length : Int))))] []) (by kernel_rfl) (by kernel_rfl) (by kernel_rfl) ?_
  refine split_at 11 (b := decide ((↑i : Int) < (↑xs.length : Int))) (by kernel_rfl) (by kernel_rfl) ?_ ?_
  rotate_left
  · intro hb1
    replace hb1 := of_decide_eq_false hb1
    refine go mixed 2000 [2] 0 (St.mk Rg.no [kCd (bitL 4 15)] [(2, vS (some (Addr.mk g 0 none)) xs.length xs.length)] []) (by kernel_rfl) (by kernel_rfl) (by kernel_rfl) ?_
    refine ret_ok (vs := [vS (some (Addr.mk g 0 none)) xs.length xs.length]) (by kernel_rfl) ?_
    intro L w1 hs
    have e1 : i = xs.length := (by omega); subst e1; simp only [List.take_length, Nat.sub_self, List.replicate_zero, List.append_nil] at hs; exact ⟨_, _, rfl, hs.out (As := [_])⟩
  intro hb1
  replace hb1 := of_decide_eq_true hb1
  refine go mixed 2000 [0, 3, 4, 14, 15, 16, 17] 0 (St.mk (Rg.sq (bitL 9 379) 4) [KI.block 1, kCd (bitL 8 251), kLp (bitL 6 59), KI.block 0, kCd (bitL 3 7)] [(0, vS Axs xs.length cxs), (3, vS (some (Addr.mk g 0 none)) xs.length xs.length), (4, vI (↑i : Int)), (14, vS (some (Addr.mk g 0 none)) xs.length xs.length), (15, vI (↑i : Int)), (16, vS Axs xs.length cxs), (17, vI (↑i : Int))] []) (by kernel_rfl) (by kernel_rfl) (by kernel_rfl) ?_
  refine index_at 4 (by kernel_rfl : atP _ _ _ 4 false = some (Op.indexAddr 22 (tmpO 16) (tmpO 17), 0, some 18, Rg.sq (bitL 9 379) 5)) (ni := i) (sz := 3) (by kernel_rfl) rfl rfl rfl (by omega) (fun L w1 hs => rd_some (i := i) (rdRow_ext (hs.old 1 rfl) hxs) (by omega)) ?_
  intro a_1 ha_1
  cases ha_1
  refine go mixed 2000 [0, 3, 4, 14, 15, 18] 0 (St.mk (Rg.sq (bitL 9 379) 5) [KI.block 1, kCd (bitL 8 251), kLp (bitL 6 59), KI.block 0, kCd (bitL 3 7)] [(0, vS (some a_1) xs.length cxs), (3, vS (some (Addr.mk g 0 none)) xs.length xs.length), (4, vI (↑i : Int)), (14, vS (some (Addr.mk g 0 none)) xs.length xs.length), (15, vI (↑i : Int)), (18, vP (a_1.add (i * 3)))] []) (by kernel_rfl) (by kernel_rfl) (by kernel_rfl) ?_
  obtain ⟨Aentries_el1, centries_el1, Akids_el1, ckids_el1, hr1_el1, hr2_el1, hc_el1⟩ := Go.Proofs.Ytgleoebogikooaa.Dk.kNd_at (i := i) hxs (by omega)
  refine load_agg 5 (by kernel_rfl : atP _ _ _ 5 true = some (Op.load 135 (tmpO 18), 135, some 19, Rg.sq (bitL 9 379) 6)) (n := 3) (by kernel_rfl) rfl ?_
  intro L w1 hs
  refine ⟨[.bo (xs[i].leaf), .v (Value.slice Aentries_el1 xs[i].entries.length centries_el1), .v (Value.slice Akids_el1 xs[i].kids.length ckids_el1)], rfl, cells_at0 (cellsH_ext (hs.old 1 rfl) hc_el1) rfl, ?_⟩
  clear hs
  refine go mixed 2000 [0, 3, 4, 14, 15, 19] 0 (St.mk (Rg.sq (bitL 9 379) 6) [KI.block 1, kCd (bitL 8 251), kLp (bitL 6 59), KI.block 0, kCd (bitL 3 7)] [(0, vS (some a_1) xs.length cxs), (3, vS (some (Addr.mk g 0 none)) xs.length xs.length), (4, vI (↑i : Int)), (14, vS (some (Addr.mk g 0 none)) xs.length xs.length), (15, vI (↑i : Int)), (19, SV.agg [SC.bo xs[i].leaf, cS Aentries_el1 xs[i].entries.length centries_el1, cS Akids_el1 xs[i].kids.length ckids_el1])] []) (by kernel_rfl) (by kernel_rfl) (by kernel_rfl) ?_
  refine call_at true (by kernel_rfl : atC _ _ _ true = some (98, [SV.agg [SC.bo xs[i].leaf, cS Aentries_el1 xs[i].entries.length centries_el1, cS Akids_el1 xs[i].kids.length ckids_el1]], some 20, Rg.sq (bitL 9 379) 7)) (by kernel_rfl) (fun L w1 hs => (Go.Proofs.Ytgleoebogikooaa.Dk.toNode_ok (xs[i]) ([Value.bool xs[i].leaf, Value.slice Aentries_el1 xs[i].entries.length centries_el1, Value.slice Akids_el1 xs[i].kids.length ckids_el1]) w1 (Go.Proofs.Ytgleoebogikooaa.Dk.kNd_mk (rdRow_ext (hs.old 1 rfl) hr1_el1) (rdRow_ext (hs.old 1 rfl) hr2_el1)) (by exact sd_1 _ _)).mono ?_)
  rintro e_ w2_ ⟨Aoentries_1, coentries_1, Aokids_1, cokids_1, rfl, hf_⟩
  refine ⟨.agg [.bo (xs[i].leaf), .v (Value.slice Aoentries_1 xs[i].entries.length coentries_1), .v (Value.slice Aokids_1 xs[i].kids.length cokids_1)], _, _, rfl, fun _ => hf_.1.block, hs.fresh hf_, ?_⟩
  clear hs hf_
  refine go mixed 2000 [0, 3, 4, 14, 15, 20] 0 (St.mk (Rg.sq (bitL 9 379) 7) [KI.block 1, kCd (bitL 8 251), kLp (bitL 6 59), KI.block 0, kCd (bitL 3 7)] [(0, vS (some a_1) xs.length cxs), (3, vS (some (Addr.mk g 0 none)) xs.length xs.length), (4, vI (↑i : Int)), (14, vS (some (Addr.mk g 0 none)) xs.length xs.length), (15, vI (↑i : Int)), (20, SV.agg [SC.bo xs[i].leaf, cS Aoentries_1 xs[i].entries.length coentries_1, cS Aokids_1 xs[i].kids.length cokids_1])] []) (by kernel_rfl) (by kernel_rfl) (by kernel_rfl) ?_
  refine index_at 7 (by kernel_rfl : atP _ _ _ 7 false = some (Op.indexAddr 27 (tmpO 14) (tmpO 15), 0, some 21, Rg.sq (bitL 9 379) 8)) (ni := i) (sz := 3) (by kernel_rfl) rfl rfl rfl (by omega) (fun L w1 hs => rd_some (i := i) (hs.rd 2 rfl) (by omega)) ?_
  intro a_2 ha_2
  cases ha_2
  refine go mixed 2000 [0, 3, 4, 20, 21] 0 (St.mk (Rg.sq (bitL 9 379) 8) [KI.block 1, kCd (bitL 8 251), kLp (bitL 6 59), KI.block 0, kCd (bitL 3 7)] [(0, vS (some a_1) xs.length cxs), (3, vS (some (Addr.mk g 0 none)) xs.length xs.length), (4, vI (↑i : Int)), (20, SV.agg [SC.bo xs[i].leaf, cS Aoentries_1 xs[i].entries.length coentries_1, cS Aokids_1 xs[i].kids.length cokids_1]), (21, vP ((Addr.mk g 0 none).add (i * 3)))] []) (by kernel_rfl) (by kernel_rfl) (by kernel_rfl) ?_
  have hlt : i < xs.length := by omega
  refine h_bring 2 rfl ?_
  refine store_el (A := [_, _]) (d := kNd) (y := xs[i]) (by kernel_rfl : atB _ _ _ false = some (Op.store 96 (tmpO 21) (tmpO 20), 0, none, Rg.sq (bitL 9 379) 9)) (by kernel_rfl) rfl rfl rfl rfl rfl (by simp; omega) (fun h S hA => kNd_own  hA) ?_
  refine go mixed 2000 [0, 3, 4] 0 (St.mk Rg.no [kLp (bitL 6 59), KI.block 0, kCd (bitL 3 7)] [(0, vS (some a_1) xs.length cxs), (3, vS (some (Addr.mk g 0 none)) xs.length xs.length), (4, vI (IntKind.i64.wrap ((↑i : Int) + 1)))] []) (by kernel_rfl) (by kernel_rfl) (by kernel_rfl) ?_
  rw [wrap_succ (by omega), set_fill xs (⟨false, [], []⟩ : Nd) hlt]
  exact ih (i + 1) hlt (by omega)

theorem toTree_ok (x : Tr) (csx : List Value) (w : World) (hx : kTr.rd w.heap x csx) (hz : zTr x ≤ 1048576) :
    Calls Try.prog 14 #[.agg csx.toArray] w fun e w' => ∃ (Aonodes : Option Addr) (conodes : Nat), e = .returned (.agg #[.slice Aonodes x.nodes.length conodes, .int .i64 x.root]) ∧ Fresh w w' [rowA 96 kNd x.nodes (.slice Aonodes x.nodes.length conodes)] := by
  obtain ⟨Axnodes, cxnodes, rfl, hrxnodes⟩ := kTr_inv hx
  refine enter (args := [.agg [.v (.slice Axnodes x.nodes.length cxnodes), .v (.int .i64 x.root)]]) Try.func14 (c := bodyOf Try.f14) rfl rfl (start_LOK _) (start_old w) ?_
  have hzz : zTr x = zRow zNd x.nodes := rfl
  refine go mixed 2000 [1, 2, 3, 5] 3 (St.mk (Rg.sq (bitL 3 3) 2) [kCd (bitL 3 7)] [(1, vR 0 0), (2, vR 1 0), (3, vR 2 0), (5, vS Axnodes x.nodes.length cxnodes)] [LB.mk [cS Axnodes x.nodes.length cxnodes, cI x.root] 24, LB.mk [cS none 0 0, cI 0] 29, LB.mk [cS none 0 0, cI 0] 29]) (by kernel_rfl) (by kernel_rfl) (by kernel_rfl) ?_
  refine call_at true (by kernel_rfl : atC _ _ _ true = some (54, [vS Axnodes x.nodes.length cxnodes], some 6, Rg.sq (bitL 3 3) 3)) (by kernel_rfl) (fun L w1 hs => (Go.Proofs.Ytgleoebogikooaa.Dk.toNodeS_ok (x.nodes) (Value.slice Axnodes x.nodes.length cxnodes) w1 (rdRow_ext (hs.old 0 rfl) hrxnodes) (by assumption)).mono ?_)
  rintro e_ w2_ ⟨Ao_1, co_1, rfl, hf_⟩
  refine ⟨.one (.v (Value.slice Ao_1 x.nodes.length co_1)), _, _, rfl, fun _ => hf_.1.block, hs.fresh hf_, ?_⟩
  clear hs hf_
  refine go mixed 2000 [2] 2 (St.mk Rg.no [kCd (bitL 5 31)] [(2, vR 1 0)] [LB.mk [cS Axnodes x.nodes.length cxnodes, cI x.root] 24, LB.mk [cS Ao_1 x.nodes.length co_1, cI x.root] 29]) (by kernel_rfl) (by kernel_rfl) (by kernel_rfl) ?_
  refine ret_ok (vs := [SV.agg [cS Ao_1 x.nodes.length co_1, cI x.root]]) (by kernel_rfl) ?_
  intro L w1 hs
  exact ⟨_, _, rfl, hs.out (As := [_])⟩

end Go.Proofs.Ytgleoebogikooaa.Dk
