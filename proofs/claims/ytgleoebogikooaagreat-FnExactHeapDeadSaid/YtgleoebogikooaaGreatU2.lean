/- Walks of functions of the program: what each call returns and what it leaves in memory. Conditions: those that each theorem names. -/
import Derived.Test.YtgleoebogikooaaGreatU1
namespace Go.Proofs.YtgleoebogikooaaGreat.Dk
set_option linter.unusedVariables false
set_option linter.unusedSimpArgs false
open Go.Proofs.YtgleoebogikooaaGreat.Sx Go.Proofs Go.RowKit
set_option maxRecDepth 100000
set_option maxHeartbeats 1000000
theorem fdiv_pw {n : Int} {k : Nat} {j : Int} (hj : j = ((8 * k : Nat) : Int)) (hk : k ≤ 8) : n.fdiv (2 ^ min j.toNat IntKind.u64.bits) = n / pw k := by
 rw [hj, Int.toNat_natCast, Nat.min_eq_left (show 8 * k ≤ IntKind.u64.bits by show 8 * k ≤ 64; omega), pw_two, Int.fdiv_eq_ediv_of_nonneg _ (by have := pw_pos k; omega)]
theorem beI_step {j : Nat} {n : Int} (h : 0 < j) : beI j n = (n / pw (j - 1)) % 256 :: beI (j - 1) n := by
 obtain ⟨k, rfl⟩ : ∃ k, j = k + 1 := ⟨j - 1, by omega⟩
 rfl
theorem div_pw_bnd {n : Int} (k : Nat) (h0 : 0 ≤ n) (h1 : n < 18446744073709551616) : 0 ≤ n / pw k ∧ n / pw k < 18446744073709551616 := by
 have hp := pw_pos k
 refine ⟨Int.ediv_nonneg h0 (by omega), ?_⟩
 have := Int.ediv_le_self (pw k) h0
 omega
theorem highFirst_ok (n : Int) (w : World) (h0 : 0 ≤ n) (h63 : n < 18446744073709551616) :
  Calls Tryz.prog 131 #[.int .u64 n] w fun e w' => ∃ (B : Option Addr) (d : Nat), e = .returned (.slice B (beI 8 n).length d) ∧ Fresh w w' [rowA 5 kU8 (beI 8 n) (.slice B (beI 8 n).length d)] := by
 refine enter (args := [.one (.v (.int .u64 n))]) Tryz.func131 (c := bodyOf Tryz.f131) rfl rfl (start_LOK _) (start_old w) ?_
 refine h_nil 5 kU8 ?_
 refine gn 0 Rg.no [kLp (bitL 6 59), KI.block 0, kCd (bitL 3 7)] [(0, SV.one (SC.v (Value.int IntKind.u64 n))), (3, vS none 0 0), (4, vI 56)] [] ?_
 refine loop_at (ι := Nat × List Int × Option Addr × Nat) (fun q => [(4, .one (.v (.int .i64 (8 * (q.1 : Int) - 8)))), (3, .one (.v (.slice q.2.2.1 q.2.1.length q.2.2.2)))]) (fun _ => []) (fun q => [rowA 5 kU8 q.2.1 (.slice q.2.2.1 q.2.1.length q.2.2.2), oldA w]) (fun q => q.1 ≤ 8 ∧ q.2.1.length = 8 - q.1 ∧ beI 8 n = q.2.1 ++ beI q.1 n) (fun q => q.1) (8, [], none, 0) rfl rfl rfl ⟨Nat.le_refl _, rfl, rfl⟩ ?_
 rintro ⟨j, out, B, d⟩ ⟨hi, hol, hle⟩ ih
 simp only at hi hol hle ih ⊢
 rcases Nat.eq_zero_or_pos j with rfl | hj
 ·have hout : beI 8 n = out := by rw [hle]; simp [beI]
  refine gn 0 Rg.no [kCd (bitL 8 187), kCd (bitL 7 123), kLp (bitL 6 59), KI.block 0, kCd (bitL 3 7)] [(0, SV.one (SC.v (Value.int IntKind.u64 n))), (3, vS B out.length d), (4, vI (-8)), (6, vB false)] [] ?_
  refine ltk 6 false ?_
  refine gn 0 Rg.no [kCd (bitL 4 15)] [(2, vS B out.length d)] [] ?_
  refine rtk [vS B out.length d] ?_
  intro L w1 hs
  rw [hout]; exact ⟨_, _, rfl, hs.out (As := [_])⟩
 have hst := beI_step (n := n) hj
 have hd := div_pw_bnd (j - 1) h0 h63
 have hw := fdiv_pw (n := n) (k := j - 1) rfl (by omega)
 generalize hdq : n / pw (j - 1) = q at *
 have wnext : IntKind.i64.wrap ((8 : Int) * (j : Int) - 8 - 8) = 8 * ((j - 1 : Nat) : Int) - 8 := by rw [IntKind.wrap_i64]; omega
 have nf_2 : IntKind.u8.wrap q = q % 256 := rfl
 refine gn 0 Rg.no [kCd (bitL 8 187), kCd (bitL 7 123), kLp (bitL 6 59), KI.block 0, kCd (bitL 3 7)] [(0, SV.one (SC.v (Value.int IntKind.u64 n))), (3, vS B out.length d), (4, vI (8 * (↑j : Int) - 8)), (6, vB (decide (8 * (↑j : Int) - 8 ≥ 0)))] [] ?_
 refine spl 6 (decide (8 * (↑j : Int) - 8 ≥ 0)) ?_ ?_
 rotate_left
 ·intro hb1
  replace hb1 := of_decide_eq_false hb1
  (exfalso; omega)
 intro hb1
 replace hb1 := of_decide_eq_true hb1
 refine gn 0 (Rg.sq (bitL 9 379) 3) [KI.block 1, kCd (bitL 8 251), kLp (bitL 6 59), KI.block 0, kCd (bitL 3 7)] [(0, SV.one (SC.v (Value.int IntKind.u64 n))), (4, vI (8 * (↑j : Int) - 8)), (9, vS B out.length d), (10, SV.one (SC.v (Value.int IntKind.u64 n))), (11, vI (8 * (↑j : Int) - 8))] [] ?_
 refine shr_at 3 (by kernel_rfl : atP _ _ _ 3 false = some (Op.binOp BinOp.shr 93 (tmpO 10) (tmpO 11) 3, 93, some 12, Rg.sq (bitL 9 379) 4)) (r := q) rfl rfl (by omega) (by rw [show 8 * (j : Int) - 8 = ((8 * (j - 1) : Nat) : Int) by omega]; exact hw) ?_
 refine gn 1 (Rg.sq (bitL 9 379) 6) [KI.block 1, kCd (bitL 8 251), kLp (bitL 6 59), KI.block 0, kCd (bitL 3 7)] [(0, SV.one (SC.v (Value.int IntKind.u64 n))), (4, vI (8 * (↑j : Int) - 8)), (9, vS B out.length d), (14, SV.one (SC.sl 0 0 1 1))] [LB.mk [SC.v (Value.int IntKind.u8 (IntKind.u8.wrap q))] 5] ?_
 try simp only [flx, h63, nf_2]
 refine append_scl [q % 256] (by_ := 1) (e := 5) (by kernel_rfl : atB _ _ _ false = some (Op.call (Call.mk (Callee.builtin Builtin.append) #[tmpO 9, tmpO 14] #[44, 44]), 44, some 15, Rg.sq (bitL 9 379) 7)) (by kernel_rfl) rfl rfl rfl rfl rfl (by simp [maxLen]; omega) (by simp; omega) ?_
 intro B' d'
 refine gn 0 Rg.no [kLp (bitL 6 59), KI.block 0, kCd (bitL 3 7)] [(0, SV.one (SC.v (Value.int IntKind.u64 n))), (3, vS B' (out ++ [q % 256]).length d'), (4, vI (IntKind.i64.wrap ((8 : Int) * (↑j : Int) - 8 - 8)))] [] ?_
 rw [wnext]
 exact ih (j - 1, out ++ [q % 256], B', d') ⟨by simp only; omega, by simp [hol]; omega, by simp only [List.append_assoc, List.singleton_append]; rw [hle, hst]⟩ (by simp only; omega)
theorem l3high_ok (n : Int) (w : World) (h0 : 0 ≤ n) (h63 : n < 18446744073709551616) :
  Calls Tryz.prog 112 #[.int .u64 n] w fun e w' => ∃ (B : Option Addr) (d : Nat), e = .returned (.slice B (beI 8 n).length d) ∧ Fresh w w' [rowA 5 kU8 (beI 8 n) (.slice B (beI 8 n).length d)] := by
 refine enter (args := [.one (.v (.int .u64 n))]) Tryz.func112 (c := bodyOf Tryz.f112) rfl rfl (start_LOK _) (start_old w) ?_
 refine h_nil 5 kU8 ?_
 refine gn 0 Rg.no [kLp (bitL 6 59), KI.block 0, kCd (bitL 3 7)] [(0, SV.one (SC.v (Value.int IntKind.u64 n))), (3, vS none 0 0), (4, vI 7)] [] ?_
 refine loop_at (ι := Nat × List Int × Option Addr × Nat) (fun q => [(4, .one (.v (.int .i64 ((q.1 : Int) - 1)))), (3, .one (.v (.slice q.2.2.1 q.2.1.length q.2.2.2)))]) (fun _ => []) (fun q => [rowA 5 kU8 q.2.1 (.slice q.2.2.1 q.2.1.length q.2.2.2), oldA w]) (fun q => q.1 ≤ 8 ∧ q.2.1.length = 8 - q.1 ∧ beI 8 n = q.2.1 ++ beI q.1 n) (fun q => q.1) (8, [], none, 0) rfl rfl rfl ⟨Nat.le_refl _, rfl, rfl⟩ ?_
 rintro ⟨j, out, B, d⟩ ⟨hi, hol, hle⟩ ih
 simp only at hi hol hle ih ⊢
 rcases Nat.eq_zero_or_pos j with rfl | hj
 ·have hout : beI 8 n = out := by rw [hle]; simp [beI]
  refine gn 0 Rg.no [kCd (bitL 8 187), kCd (bitL 7 123), kLp (bitL 6 59), KI.block 0, kCd (bitL 3 7)] [(0, SV.one (SC.v (Value.int IntKind.u64 n))), (3, vS B out.length d), (4, vI (-1)), (6, vB false)] [] ?_
  refine ltk 6 false ?_
  refine gn 0 Rg.no [kCd (bitL 4 15)] [(2, vS B out.length d)] [] ?_
  refine rtk [vS B out.length d] ?_
  intro L w1 hs
  rw [hout]; exact ⟨_, _, rfl, hs.out (As := [_])⟩
 have hst := beI_step (n := n) hj
 have hd := div_pw_bnd (j - 1) h0 h63
 have hw := fdiv_pw (n := n) (k := j - 1) rfl (by omega)
 generalize hdq : n / pw (j - 1) = q at *
 have wnext : IntKind.i64.wrap ((j : Int) - 1 - 1) = ((j - 1 : Nat) : Int) - 1 := by rw [IntKind.wrap_i64]; omega
 have nf_1 : IntKind.u64.wrap (IntKind.i64.wrap ((8 : Int) * ((j : Int) - 1))) = ((8 * (j - 1) : Nat) : Int) := by rw [IntKind.wrap_u64, IntKind.wrap_i64]; omega
 have nf_2 : IntKind.u8.wrap (q % 256) = q % 256 := by show (q % 256) % 256 = _; omega
 have nf_3 : IntKind.u64.wrap (((BitVec.ofInt IntKind.u64.bits q &&& BitVec.ofInt IntKind.u64.bits 255).toNat : Nat) : Int) = q % 256 := and255 hd.1 hd.2
 refine gn 0 Rg.no [kCd (bitL 8 187), kCd (bitL 7 123), kLp (bitL 6 59), KI.block 0, kCd (bitL 3 7)] [(0, SV.one (SC.v (Value.int IntKind.u64 n))), (3, vS B out.length d), (4, vI ((↑j : Int) - 1)), (6, vB (decide ((↑j : Int) - 1 ≥ 0)))] [] ?_
 refine spl 6 (decide ((↑j : Int) - 1 ≥ 0)) ?_ ?_
 rotate_left
 ·intro hb1
  replace hb1 := of_decide_eq_false hb1
  (exfalso; omega)
 intro hb1
 replace hb1 := of_decide_eq_true hb1
 refine gn 0 (Rg.sq (bitL 9 379) 5) [KI.block 1, kCd (bitL 8 251), kLp (bitL 6 59), KI.block 0, kCd (bitL 3 7)] [(0, SV.one (SC.v (Value.int IntKind.u64 n))), (4, vI ((↑j : Int) - 1)), (9, vS B out.length d), (10, SV.one (SC.v (Value.int IntKind.u64 n))), (13, SV.one (SC.v (Value.int IntKind.u64 (IntKind.u64.wrap (IntKind.i64.wrap ((8 : Int) * ((↑j : Int) - 1)))))))] [] ?_
 try simp only [flx, h63, nf_1, nf_2, nf_3]
 refine shr_at 5 (by kernel_rfl : atP _ _ _ 5 false = some (Op.binOp BinOp.shr 93 (tmpO 10) (tmpO 13) 114, 93, some 14, Rg.sq (bitL 9 379) 6)) (r := q) rfl rfl (by omega) hw ?_
 refine gn 1 (Rg.sq (bitL 9 379) 9) [KI.block 1, kCd (bitL 8 251), kLp (bitL 6 59), KI.block 0, kCd (bitL 3 7)] [(0, SV.one (SC.v (Value.int IntKind.u64 n))), (4, vI ((↑j : Int) - 1)), (9, vS B out.length d), (17, SV.one (SC.sl 0 0 1 1))] [LB.mk [SC.v (Value.int IntKind.u8 (IntKind.u8.wrap (IntKind.u64.wrap (↑(BitVec.ofInt IntKind.u64.bits q &&& BitVec.ofInt IntKind.u64.bits 255).toNat : Int))))] 5] ?_
 try simp only [flx, h63, nf_1, nf_2, nf_3]
 refine append_scl [q % 256] (by_ := 1) (e := 5) (by kernel_rfl : atB _ _ _ false = some (Op.call (Call.mk (Callee.builtin Builtin.append) #[tmpO 9, tmpO 17] #[44, 44]), 44, some 18, Rg.sq (bitL 9 379) 10)) (by kernel_rfl) rfl rfl rfl rfl rfl (by simp [maxLen]; omega) (by simp; omega) ?_
 intro B' d'
 refine gn 0 Rg.no [kLp (bitL 6 59), KI.block 0, kCd (bitL 3 7)] [(0, SV.one (SC.v (Value.int IntKind.u64 n))), (3, vS B' (out ++ [q % 256]).length d'), (4, vI (IntKind.i64.wrap ((↑j : Int) - 1 - 1)))] [] ?_
 rw [wnext]
 exact ih (j - 1, out ++ [q % 256], B', d') ⟨by simp only; omega, by simp [hol]; omega, by simp only [List.append_assoc, List.singleton_append]; rw [hle, hst]⟩ (by simp only; omega)
theorem fromHigh_ok (b : List Int) (vb : Value) (w : World) (hb : rdRow kU8 w.heap b vb) (hby : byOk b) (hl : b.length ≤ 1048576) :
  Calls Tryz.prog 125 #[vb] w fun e w' => e = .returned (.int .u64 (be b)) ∧ Below w.heap.size w w' := by
 obtain ⟨Ab, cb, rfl⟩ := rdRow_form hb
 refine enter (args := [.one (.v (.slice Ab b.length cb))]) Tryz.func125 (c := bodyOf Tryz.f125) rfl rfl (start_LOK _) (start_old w) ?_
 refine gn 0 Rg.no [kLp (bitL 6 59), KI.block 0, kCd (bitL 3 7)] [(3, SV.one (SC.v (Value.int IntKind.u64 0))), (6, vS Ab b.length cb), (7, vI (↑b.length : Int)), (8, vI 0)] [] ?_
 refine loop_at (ι := Nat) (fun i => [(3, .one (.v (.int .u64 (be (b.take i))))), (8, .one (.v (.int .i64 i)))]) (fun _ => []) (fun _ => [oldA w]) (fun i => i ≤ b.length) (fun i => b.length - i) 0 rfl rfl rfl (Nat.zero_le _) ?_
 intro i hi ih
 rcases Nat.lt_or_ge i b.length with hlt | hge
 ·have hx := hby _ (List.getElem_mem hlt)
  have hk := be_bnd (byOk_take hby i)
  have hst := be_take hlt
  generalize hacc : be (b.take i) = acc at *
  have nf_3 : IntKind.u64.wrap b[i] = b[i] := by rw [IntKind.wrap_u64]; omega
  have nf_4 : IntKind.u64.wrap (((BitVec.ofInt IntKind.u64.bits (IntKind.u64.wrap (acc * 2 ^ min (Int.toNat 8) IntKind.u64.bits)) ||| BitVec.ofInt IntKind.u64.bits b[i]).toNat : Nat) : Int) = beF acc b[i] := or8w hk.1 hk.2 hx
  refine gn 0 Rg.no [kCd (bitL 8 123), kCd (bitL 8 251), kLp (bitL 6 59), KI.block 0, kCd (bitL 3 7)] [(3, SV.one (SC.v (Value.int IntKind.u64 acc))), (6, vS Ab b.length cb), (7, vI (↑b.length : Int)), (8, vI (↑i : Int)), (9, vB (decide ((↑i : Int) < (↑b.length : Int))))] [] ?_
  refine spl 9 (decide ((↑i : Int) < (↑b.length : Int))) ?_ ?_
  ·intro hb1
   replace hb1 := of_decide_eq_true hb1
   refine gn 0 (Rg.sq (bitL 11 763) 0) [kCd (bitL 11 1787), KI.block 1, kCd (bitL 9 507), kLp (bitL 6 59), KI.block 0, kCd (bitL 3 7)] [(3, SV.one (SC.v (Value.int IntKind.u64 acc))), (6, vS Ab b.length cb), (7, vI (↑b.length : Int)), (8, vI (↑i : Int))] [] ?_
   refine index_at 0 (by kernel_rfl : atP _ _ _ 0 false = some (Op.indexAddr 44 (tmpO 6) (tmpO 8), 0, some 10, Rg.sq (bitL 11 763) 1)) (ni := i) (sz := 1) (by kernel_rfl) rfl rfl rfl ‹_› (fun L w1 hs => rd_some (i := i) (rdRow_ext (hs.old 0 rfl) hb) ‹_›) ?_
   intro a_1 ha_1
   cases ha_1
   refine gn 0 (Rg.sq (bitL 11 763) 1) [kCd (bitL 11 1787), KI.block 1, kCd (bitL 9 507), kLp (bitL 6 59), KI.block 0, kCd (bitL 3 7)] [(3, SV.one (SC.v (Value.int IntKind.u64 acc))), (6, vS (some a_1) b.length cb), (7, vI (↑b.length : Int)), (8, vI (↑i : Int)), (10, vP (a_1.add (i * 1)))] [] ?_
   refine load_one 1 (by kernel_rfl : atP _ _ _ 1 true = some (Op.load 5 (tmpO 10), 5, some 11, Rg.sq (bitL 11 763) 2)) (n := 1) (by kernel_rfl) rfl ?_
   intro L w1 hs
   refine ⟨.v (Value.int IntKind.u8 ((b)[i]'‹_›)), rd_sc (rdRow_ext (hs.old 0 rfl) hb) ‹_›, ?_⟩
   clear hs
   refine gn 0 Rg.no [kLp (bitL 6 59), KI.block 0, kCd (bitL 3 7)] [(3, SV.one (SC.v (Value.int IntKind.u64 (IntKind.u64.wrap (↑(BitVec.ofInt IntKind.u64.bits (IntKind.u64.wrap (acc * 2 ^ min (Int.toNat 8) IntKind.u64.bits)) ||| BitVec.ofInt IntKind.u64.bits (IntKind.u64.wrap b[i])).toNat : Int))))), (6, vS (some a_1) b.length cb), (7, vI (↑b.length : Int)), (8, vI (IntKind.i64.wrap ((↑i : Int) + 1)))] [] ?_
   try simp only [flx, nf_3, nf_4]
   rw [wrap_succ (by omega), ← hst]; exact ih (i + 1) hlt (by omega)
  ·intro hb1
   replace hb1 := of_decide_eq_false hb1
   (exfalso; omega)
 ·obtain rfl : i = b.length := by omega
  rw [List.take_length]
  refine gn 0 Rg.no [kCd (bitL 8 123), kCd (bitL 8 251), kLp (bitL 6 59), KI.block 0, kCd (bitL 3 7)] [(3, SV.one (SC.v (Value.int IntKind.u64 (be b)))), (6, vS Ab b.length cb), (7, vI (↑b.length : Int)), (8, vI (↑b.length : Int)), (9, vB (decide ((↑b.length : Int) < (↑b.length : Int))))] [] ?_
  refine spl 9 (decide ((↑b.length : Int) < (↑b.length : Int))) ?_ ?_
  ·intro hb1
   replace hb1 := of_decide_eq_true hb1
   (exfalso; omega)
  ·intro hb1
   replace hb1 := of_decide_eq_false hb1
   refine gn 0 Rg.no [kCd (bitL 4 15)] [(2, SV.one (SC.v (Value.int IntKind.u64 (be b))))] [] ?_
   refine rtk [SV.one (SC.v (Value.int IntKind.u64 (be b)))] ?_
   intro L w1 hs
   exact ⟨rfl, hs.out0⟩
theorem l3low_ok (b : List Int) (vb : Value) (w : World) (hb : rdRow kU8 w.heap b vb) (hby : byOk b) (hl : b.length ≤ 1048576) :
  Calls Tryz.prog 77 #[vb] w fun e w' => e = .returned (.int .u64 (be b)) ∧ Below w.heap.size w w' := by
 obtain ⟨Ab, cb, rfl⟩ := rdRow_form hb
 refine enter (args := [.one (.v (.slice Ab b.length cb))]) Tryz.func77 (c := bodyOf Tryz.f77) rfl rfl (start_LOK _) (start_old w) ?_
 refine gn 0 Rg.no [kLp (bitL 6 59), KI.block 0, kCd (bitL 3 7)] [(0, vS Ab b.length cb), (3, SV.one (SC.v (Value.int IntKind.u64 0))), (4, vI 0)] [] ?_
 refine loop_at (ι := Nat) (fun i => [(3, .one (.v (.int .u64 (be (b.take i))))), (4, .one (.v (.int .i64 i)))]) (fun _ => []) (fun _ => [oldA w]) (fun i => i ≤ b.length) (fun i => b.length - i) 0 rfl rfl rfl (Nat.zero_le _) ?_
 intro i hi ih
 rcases Nat.lt_or_ge i b.length with hlt | hge
 ·have hx := hby _ (List.getElem_mem hlt)
  have hk := be_bnd (byOk_take hby i)
  have hst := be_take hlt
  generalize hacc : be (b.take i) = acc at *
  have nf_3 : IntKind.u64.wrap b[i] = b[i] := by rw [IntKind.wrap_u64]; omega
  have nf_4 : IntKind.u64.wrap (((BitVec.ofInt IntKind.u64.bits (IntKind.u64.wrap (acc * 2 ^ min (Int.toNat 8) IntKind.u64.bits)) ||| BitVec.ofInt IntKind.u64.bits b[i]).toNat : Nat) : Int) = beF acc b[i] := or8w hk.1 hk.2 hx
  refine gn 0 Rg.no [kCd (bitL 8 187), kCd (bitL 7 123), kLp (bitL 6 59), KI.block 0, kCd (bitL 3 7)] [(0, vS Ab b.length cb), (3, SV.one (SC.v (Value.int IntKind.u64 acc))), (4, vI (↑i : Int)), (8, vB (decide ((↑i : Int) < (↑b.length : Int))))] [] ?_
  refine spl 8 (decide ((↑i : Int) < (↑b.length : Int))) ?_ ?_
  ·intro hb1
   replace hb1 := of_decide_eq_true hb1
   refine gn 0 (Rg.sq (bitL 9 379) 4) [KI.block 1, kCd (bitL 8 251), kLp (bitL 6 59), KI.block 0, kCd (bitL 3 7)] [(0, vS Ab b.length cb), (4, vI (↑i : Int)), (12, SV.one (SC.v (Value.int IntKind.u64 (IntKind.u64.wrap (acc * 2 ^ min (Int.toNat 8) IntKind.u64.bits))))), (13, vS Ab b.length cb), (14, vI (↑i : Int))] [] ?_
   refine index_at 4 (by kernel_rfl : atP _ _ _ 4 false = some (Op.indexAddr 44 (tmpO 13) (tmpO 14), 0, some 15, Rg.sq (bitL 9 379) 5)) (ni := i) (sz := 1) (by kernel_rfl) rfl rfl rfl ‹_› (fun L w1 hs => rd_some (i := i) (rdRow_ext (hs.old 0 rfl) hb) ‹_›) ?_
   intro a_1 ha_1
   cases ha_1
   refine gn 0 (Rg.sq (bitL 9 379) 5) [KI.block 1, kCd (bitL 8 251), kLp (bitL 6 59), KI.block 0, kCd (bitL 3 7)] [(0, vS (some a_1) b.length cb), (4, vI (↑i : Int)), (12, SV.one (SC.v (Value.int IntKind.u64 (IntKind.u64.wrap (acc * 2 ^ min (Int.toNat 8) IntKind.u64.bits))))), (15, vP (a_1.add (i * 1)))] [] ?_
   refine load_one 5 (by kernel_rfl : atP _ _ _ 5 true = some (Op.load 5 (tmpO 15), 5, some 16, Rg.sq (bitL 9 379) 6)) (n := 1) (by kernel_rfl) rfl ?_
   intro L w1 hs
   refine ⟨.v (Value.int IntKind.u8 ((b)[i]'‹_›)), rd_sc (rdRow_ext (hs.old 0 rfl) hb) ‹_›, ?_⟩
   clear hs
   refine gn 0 Rg.no [kLp (bitL 6 59), KI.block 0, kCd (bitL 3 7)] [(0, vS (some a_1) b.length cb), (3, SV.one (SC.v (Value.int IntKind.u64 (IntKind.u64.wrap (↑(BitVec.ofInt IntKind.u64.bits (IntKind.u64.wrap (acc * 2 ^ min (Int.toNat 8) IntKind.u64.bits)) ||| BitVec.ofInt IntKind.u64.bits (IntKind.u64.wrap b[i])).toNat : Int))))), (4, vI (IntKind.i64.wrap ((↑i : Int) + 1)))] [] ?_
   try simp only [flx, nf_3, nf_4]
   rw [wrap_succ (by omega), ← hst]; exact ih (i + 1) hlt (by omega)
  ·intro hb1
   replace hb1 := of_decide_eq_false hb1
   (exfalso; omega)
 ·obtain rfl : i = b.length := by omega
  rw [List.take_length]
  refine gn 0 Rg.no [kCd (bitL 8 187), kCd (bitL 7 123), kLp (bitL 6 59), KI.block 0, kCd (bitL 3 7)] [(0, vS Ab b.length cb), (3, SV.one (SC.v (Value.int IntKind.u64 (be b)))), (4, vI (↑b.length : Int)), (8, vB (decide ((↑b.length : Int) < (↑b.length : Int))))] [] ?_
  refine spl 8 (decide ((↑b.length : Int) < (↑b.length : Int))) ?_ ?_
  ·intro hb1
   replace hb1 := of_decide_eq_true hb1
   (exfalso; omega)
  ·intro hb1
   replace hb1 := of_decide_eq_false hb1
   refine gn 0 Rg.no [kCd (bitL 4 15)] [(2, SV.one (SC.v (Value.int IntKind.u64 (be b))))] [] ?_
   refine rtk [SV.one (SC.v (Value.int IntKind.u64 (be b)))] ?_
   intro L w1 hs
   exact ⟨rfl, hs.out0⟩
end Go.Proofs.YtgleoebogikooaaGreat.Dk
