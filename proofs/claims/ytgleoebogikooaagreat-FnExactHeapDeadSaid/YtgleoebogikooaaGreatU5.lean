/- Walks of functions of the program: what each call returns and what it leaves in memory. Conditions: those that each theorem names. -/
import Derived.Test.YtgleoebogikooaaGreatU4
namespace Go.Proofs.YtgleoebogikooaaGreat.Dk
set_option linter.unusedVariables false
set_option linter.unusedSimpArgs false
open Go.Proofs.YtgleoebogikooaaGreat.Sx Go.Proofs Go.RowKit
set_option maxRecDepth 100000
set_option maxHeartbeats 1000000
def itB (a : It) (bits : Int) : List Int := a.kind :: (if a.kind = 1 then beI 8 (a.n + 9223372036854775808) else if a.kind = 2 then beI 8 bits else a.t)
def okN (a : It) : Prop := -9223372036854775808 ≤ a.n ∧ a.n < 9223372036854775808
def keyB (a : It) : List Int := if keyOk a = true then itB a (fRank a.f) else []
def valOk (a : It) : Bool := itemOk a && !decide (a.kind = 0)
def valB (a : It) : List Int := if valOk a = true then itB a (a.f : Int) else []
theorem itemOk_kind {a : It} (h : itemOk a = true) : 0 ≤ a.kind ∧ a.kind ≤ 3 ∧ a.t.length ≤ 40 := by
 unfold itemOk at h
 simp only [Bool.and_eq_true, Bool.or_eq_true, decide_eq_true_eq] at h
 omega
theorem itB_by {a : It} {bits : Int} (hk : 0 ≤ a.kind ∧ a.kind ≤ 3) (hb : byOk a.t) : byOk (itB a bits) := by
 unfold itB
 refine byOk_cons (by omega) ?_
 split
 ·exact beI_by _ _
 split
 ·exact beI_by _ _
 ·exact hb
theorem itB_len {a : It} {bits : Int} (h : a.t.length ≤ 40) : (itB a bits).length ≤ 41 := by
 unfold itB
 rw [List.length_cons]
 split
 ·rw [beI_len]; omega
 split
 ·rw [beI_len]; omega
 ·omega
theorem keyB_by {a : It} (hb : byOk a.t) : byOk (keyB a) := by
 unfold keyB
 split
 ·rename_i h; have h1 := itemOk_kind (keyOk_ok h); exact itB_by ⟨h1.1, h1.2.1⟩ hb
 ·exact fun x h => by simp at h
theorem valOk_ok {a : It} (h : valOk a = true) : itemOk a = true := by
 unfold valOk at h
 simp only [Bool.and_eq_true] at h
 exact h.1
theorem valB_by {a : It} (hb : byOk a.t) : byOk (valB a) := by
 unfold valB
 split
 ·rename_i h; have h1 := itemOk_kind (valOk_ok h); exact itB_by ⟨h1.1, h1.2.1⟩ hb
 ·exact fun x h => by simp at h
theorem keyB_len (a : It) : (keyB a).length ≤ 41 := by
 unfold keyB
 split
 ·rename_i h; exact itB_len (itemOk_kind (keyOk_ok h)).2.2
 ·simp
theorem valB_len (a : It) : (valB a).length ≤ 41 := by
 unfold valB
 split
 ·rename_i h; exact itB_len (itemOk_kind (valOk_ok h)).2.2
 ·simp
theorem fRank_bnd {b : Nat} (h : b < 18446744073709551616) : 0 ≤ fRank b ∧ fRank b < 18446744073709551616 := by
 unfold fRank
 (repeat' split) <;> omega
theorem canon_lt {b : Nat} (h : b < 18446744073709551616) : canonF b < 18446744073709551616 := by
 rcases canon_cases h with ⟨_, h1, _⟩ | ⟨_, h1, _⟩ <;> rw [h1] <;> omega
theorem iItB_ok (a : It) (csa : List Value) (bits : Int) (w : World) (ha : kIt.rd w.heap a csa) (hk : 0 ≤ a.kind ∧ a.kind ≤ 3) (hn : okN a) (hb : 0 ≤ bits ∧ bits < 18446744073709551616) (hl : a.t.length ≤ 1048576) :
  Calls Tryz.prog 128 #[.agg csa.toArray, .int .u64 bits] w fun e w' => ∃ (B : Option Addr) (d : Nat), e = .returned (.slice B (itB a bits).length d) ∧ Fresh w w' [rowA 5 kU8 (itB a bits) (.slice B (itB a bits).length d)] := by
 obtain ⟨baf, Aat, cat, rfl, hbaf, hfaf, hrat⟩ := kIt_inv ha
 refine enter (args := [.agg [.v (.int .i64 a.kind), .v (.int .i64 a.n), .v (.float .f64 baf), .v (.slice Aat a.t.length cat)], .one (.v (.int .u64 bits))]) Tryz.func128 (c := bodyOf Tryz.f128) rfl rfl (start_LOK _) (start_old w) ?_
 obtain ⟨hk0, hk3⟩ := hk
 have nf_1 : IntKind.u8.wrap a.kind = a.kind := by rw [IntKind.wrap_u8]; omega
 have nf_2 : IntKind.u64.wrap (IntKind.u64.wrap a.n + 9223372036854775808) = a.n + 9223372036854775808 := by unfold okN at hn; rw [IntKind.wrap_u64, IntKind.wrap_u64]; omega
 by_cases h1 : a.kind = 1
 ·have hit : itB a bits = [a.kind] ++ beI 8 (a.n + 9223372036854775808) := by unfold itB; rw [if_pos h1]; rfl
  have hq : 0 ≤ a.n + 9223372036854775808 ∧ a.n + 9223372036854775808 < 18446744073709551616 := by unfold okN at hn; omega
  refine gn 2 Rg.no [kCd (bitL 6 59), KI.block 0, kCd (bitL 3 7)] [(1, SV.one (SC.v (Value.int IntKind.u64 bits))), (2, vR 0 0), (5, SV.one (SC.sl 1 0 1 1)), (11, vI a.kind), (12, vB (a.kind == 1))] [LB.mk [cI a.kind, cI a.n, cF baf, cS Aat a.t.length cat] 49, LB.mk [SC.v (Value.int IntKind.u8 (IntKind.u8.wrap a.kind))] 5] ?_
  try simp only [flx, hbaf, hfaf, nf_1, nf_2]
  refine spl 12 (a.kind == 1) ?_ ?_
  rotate_left
  ·intro hb1
   replace hb1 := beq_eq_false_iff_ne.1 hb1
   (exfalso; omega)
  intro hb1
  replace hb1 := beq_iff_eq.1 hb1
  refine gn 2 (Rg.sq (bitL 8 59) 5) [kCd (bitL 8 187), KI.block 0, kCd (bitL 3 7)] [(14, SV.one (SC.sl 1 0 1 1)), (18, SV.one (SC.v (Value.int IntKind.u64 (IntKind.u64.wrap (IntKind.u64.wrap a.n + 9223372036854775808)))))] [LB.mk [cI a.kind, cI a.n, cF baf, cS Aat a.t.length cat] 49, LB.mk [SC.v (Value.int IntKind.u8 a.kind)] 5] ?_
  try simp only [flx, hbaf, hfaf, nf_1, nf_2]
  refine cak 131 [SV.one (SC.v (Value.int IntKind.u64 (a.n + 9223372036854775808)))] (some 19) (Rg.sq (bitL 8 59) 6) (fun L w1 hs => (highFirst_ok (a.n + 9223372036854775808) w1 (by omega) (by omega)).mono ?_)
  rintro e_ w2_ ⟨B_1, d_1, rfl, hf_⟩
  refine ⟨.one (.v (Value.slice B_1 (beI 8 (a.n + 9223372036854775808)).length d_1)), _, _, rfl, fun _ => hf_.1.block, hs.fresh hf_, ?_⟩
  clear hs hf_
  refine gn 2 (Rg.sq (bitL 8 59) 6) [kCd (bitL 8 187), KI.block 0, kCd (bitL 3 7)] [(14, SV.one (SC.sl 1 0 1 1)), (19, vS B_1 8 d_1)] [LB.mk [cI a.kind, cI a.n, cF baf, cS Aat a.t.length cat] 49, LB.mk [SC.v (Value.int IntKind.u8 a.kind)] 5] ?_
  refine export_lit (A := []) (d := kU8) [a.kind] rfl rfl (by kernel_rfl) (by kernel_rfl) (by kernel_rfl) rfl (by simp [maxLen]) (fun h S _ => els_sc _) ?_
  intro g
  refine append_sc (by_ := 1) (e := 5) (by kernel_rfl : atB _ _ _ false = some (Op.call (Call.mk (Callee.builtin Builtin.append) #[tmpO 14, tmpO 19] #[44, 44]), 44, some 20, Rg.sq (bitL 8 59) 7)) (by kernel_rfl) rfl rfl (fun L w1 hs => hs.rd 1 rfl) (by simp [maxLen, beI_len] <;> omega) (by simp [beI_len] <;> omega) ?_
  intro A1 c1
  refine gn 0 Rg.no [kCd (bitL 8 187), KI.block 0, kCd (bitL 3 7)] [(4, vS A1 9 c1)] [] ?_
  refine h_erase 1 _ rfl ?_
  refine gn 0 Rg.no [kCd (bitL 8 187), KI.block 0, kCd (bitL 3 7)] [(4, vS A1 9 c1)] [] ?_
  refine rtk [vS A1 9 c1] ?_
  intro L w1 hs
  rw [hit]; exact ⟨_, _, rfl, hs.out (As := [_])⟩
 by_cases h2 : a.kind = 2
 ·have hit : itB a bits = [a.kind] ++ beI 8 bits := by unfold itB; rw [if_neg h1, if_pos h2]; rfl
  refine gn 2 Rg.no [kCd (bitL 6 59), KI.block 0, kCd (bitL 3 7)] [(1, SV.one (SC.v (Value.int IntKind.u64 bits))), (2, vR 0 0), (5, SV.one (SC.sl 1 0 1 1)), (11, vI a.kind), (12, vB (a.kind == 1))] [LB.mk [cI a.kind, cI a.n, cF baf, cS Aat a.t.length cat] 49, LB.mk [SC.v (Value.int IntKind.u8 (IntKind.u8.wrap a.kind))] 5] ?_
  try simp only [flx, hbaf, hfaf, nf_1, nf_2]
  refine spl 12 (a.kind == 1) ?_ ?_
  ·intro hb1
   replace hb1 := beq_iff_eq.1 hb1
   (exfalso; omega)
  intro hb1
  replace hb1 := beq_eq_false_iff_ne.1 hb1
  refine gn 2 Rg.no [kCd (bitL 8 251), KI.block 0, kCd (bitL 3 7)] [(1, SV.one (SC.v (Value.int IntKind.u64 bits))), (2, vR 0 0), (5, SV.one (SC.sl 1 0 1 1)), (21, vB (a.kind == 2))] [LB.mk [cI a.kind, cI a.n, cF baf, cS Aat a.t.length cat] 49, LB.mk [SC.v (Value.int IntKind.u8 a.kind)] 5] ?_
  refine spl 21 (a.kind == 2) ?_ ?_
  rotate_left
  ·intro hb2
   replace hb2 := beq_eq_false_iff_ne.1 hb2
   (exfalso; omega)
  intro hb2
  replace hb2 := beq_iff_eq.1 hb2
  refine gn 2 (Rg.sq (bitL 10 251) 2) [kCd (bitL 10 763), KI.block 0, kCd (bitL 3 7)] [(23, SV.one (SC.sl 1 0 1 1)), (24, SV.one (SC.v (Value.int IntKind.u64 bits)))] [LB.mk [cI a.kind, cI a.n, cF baf, cS Aat a.t.length cat] 49, LB.mk [SC.v (Value.int IntKind.u8 a.kind)] 5] ?_
  refine cak 131 [SV.one (SC.v (Value.int IntKind.u64 bits))] (some 25) (Rg.sq (bitL 10 251) 3) (fun L w1 hs => (highFirst_ok (bits) w1 (by omega) (by omega)).mono ?_)
  rintro e_ w2_ ⟨B_1, d_1, rfl, hf_⟩
  refine ⟨.one (.v (Value.slice B_1 (beI 8 bits).length d_1)), _, _, rfl, fun _ => hf_.1.block, hs.fresh hf_, ?_⟩
  clear hs hf_
  refine gn 2 (Rg.sq (bitL 10 251) 3) [kCd (bitL 10 763), KI.block 0, kCd (bitL 3 7)] [(23, SV.one (SC.sl 1 0 1 1)), (25, vS B_1 8 d_1)] [LB.mk [cI a.kind, cI a.n, cF baf, cS Aat a.t.length cat] 49, LB.mk [SC.v (Value.int IntKind.u8 a.kind)] 5] ?_
  refine export_lit (A := []) (d := kU8) [a.kind] rfl rfl (by kernel_rfl) (by kernel_rfl) (by kernel_rfl) rfl (by simp [maxLen]) (fun h S _ => els_sc _) ?_
  intro g
  refine append_sc (by_ := 1) (e := 5) (by kernel_rfl : atB _ _ _ false = some (Op.call (Call.mk (Callee.builtin Builtin.append) #[tmpO 23, tmpO 25] #[44, 44]), 44, some 26, Rg.sq (bitL 10 251) 4)) (by kernel_rfl) rfl rfl (fun L w1 hs => hs.rd 1 rfl) (by simp [maxLen, beI_len] <;> omega) (by simp [beI_len] <;> omega) ?_
  intro A1 c1
  refine gn 0 Rg.no [kCd (bitL 10 763), KI.block 0, kCd (bitL 3 7)] [(4, vS A1 9 c1)] [] ?_
  refine h_erase 1 _ rfl ?_
  refine gn 0 Rg.no [kCd (bitL 10 763), KI.block 0, kCd (bitL 3 7)] [(4, vS A1 9 c1)] [] ?_
  refine rtk [vS A1 9 c1] ?_
  intro L w1 hs
  rw [hit]; exact ⟨_, _, rfl, hs.out (As := [_])⟩
 have hit : itB a bits = [a.kind] ++ a.t := by unfold itB; rw [if_neg h1, if_neg h2]; rfl
 refine gn 2 Rg.no [kCd (bitL 6 59), KI.block 0, kCd (bitL 3 7)] [(1, SV.one (SC.v (Value.int IntKind.u64 bits))), (2, vR 0 0), (5, SV.one (SC.sl 1 0 1 1)), (11, vI a.kind), (12, vB (a.kind == 1))] [LB.mk [cI a.kind, cI a.n, cF baf, cS Aat a.t.length cat] 49, LB.mk [SC.v (Value.int IntKind.u8 (IntKind.u8.wrap a.kind))] 5] ?_
 try simp only [flx, hbaf, hfaf, nf_1, nf_2]
 refine spl 12 (a.kind == 1) ?_ ?_
 ·intro hb1
  replace hb1 := beq_iff_eq.1 hb1
  (exfalso; omega)
 intro hb1
 replace hb1 := beq_eq_false_iff_ne.1 hb1
 refine gn 2 Rg.no [kCd (bitL 8 251), KI.block 0, kCd (bitL 3 7)] [(1, SV.one (SC.v (Value.int IntKind.u64 bits))), (2, vR 0 0), (5, SV.one (SC.sl 1 0 1 1)), (21, vB (a.kind == 2))] [LB.mk [cI a.kind, cI a.n, cF baf, cS Aat a.t.length cat] 49, LB.mk [SC.v (Value.int IntKind.u8 a.kind)] 5] ?_
 refine spl 21 (a.kind == 2) ?_ ?_
 ·intro hb2
  replace hb2 := beq_iff_eq.1 hb2
  (exfalso; omega)
 intro hb2
 replace hb2 := beq_eq_false_iff_ne.1 hb2
 refine gn 2 (Rg.sq (bitL 4 7) 3) [kCd (bitL 4 15)] [(27, SV.one (SC.sl 1 0 1 1)), (29, vS Aat a.t.length cat)] [LB.mk [cI a.kind, cI a.n, cF baf, cS Aat a.t.length cat] 49, LB.mk [SC.v (Value.int IntKind.u8 a.kind)] 5] ?_
 refine export_lit (A := []) (d := kU8) [a.kind] rfl rfl (by kernel_rfl) (by kernel_rfl) (by kernel_rfl) rfl (by simp [maxLen]) (fun h S _ => els_sc _) ?_
 intro g
 refine append_sc (by_ := 1) (e := 5) (by kernel_rfl : atB _ _ _ false = some (Op.call (Call.mk (Callee.builtin Builtin.append) #[tmpO 27, tmpO 29] #[44, 44]), 44, some 30, Rg.sq (bitL 4 7) 4)) (by kernel_rfl) rfl rfl (fun L w1 hs => rdRow_ext (hs.old 1 rfl) hrat) (by simp [maxLen] <;> omega) (by simp <;> omega) ?_
 intro A1 c1
 refine gn 0 Rg.no [kCd (bitL 4 15)] [(4, vS A1 ([a.kind] ++ a.t).length c1)] [] ?_
 refine rtk [vS A1 ([a.kind] ++ a.t).length c1] ?_
 intro L w1 hs
 rw [hit]; exact ⟨_, _, rfl, hs.out (As := [_])⟩
theorem sItB_ok (a : It) (csa : List Value) (bits : Int) (w : World) (ha : kIt.rd w.heap a csa) (hk : 0 ≤ a.kind ∧ a.kind ≤ 3) (hn : okN a) (hb : 0 ≤ bits ∧ bits < 18446744073709551616) (hl : a.t.length ≤ 1048576) :
  Calls Tryz.prog 100 #[.agg csa.toArray, .int .u64 bits] w fun e w' => ∃ (B : Option Addr) (d : Nat), e = .returned (.slice B (itB a bits).length d) ∧ Fresh w w' [rowA 5 kU8 (itB a bits) (.slice B (itB a bits).length d)] := by
 obtain ⟨baf, Aat, cat, rfl, hbaf, hfaf, hrat⟩ := kIt_inv ha
 refine enter (args := [.agg [.v (.int .i64 a.kind), .v (.int .i64 a.n), .v (.float .f64 baf), .v (.slice Aat a.t.length cat)], .one (.v (.int .u64 bits))]) Tryz.func100 (c := bodyOf Tryz.f100) rfl rfl (start_LOK _) (start_old w) ?_
 obtain ⟨hk0, hk3⟩ := hk
 have nf_1 : IntKind.u8.wrap a.kind = a.kind := by rw [IntKind.wrap_u8]; omega
 have nf_2 : IntKind.u64.wrap (((BitVec.ofInt IntKind.u64.bits (IntKind.u64.wrap a.n) ^^^ BitVec.ofInt IntKind.u64.bits 9223372036854775808).toNat : Nat) : Int) = a.n + 9223372036854775808 := by
  unfold okN at hn
  have hw : 0 ≤ IntKind.u64.wrap a.n ∧ IntKind.u64.wrap a.n < 18446744073709551616 := by rw [IntKind.wrap_u64]; omega
  refine (xor63 hw.1 hw.2).trans ?_
  rw [IntKind.wrap_u64]
  split <;> omega
 by_cases h1 : a.kind = 1
 ·have hit : itB a bits = [a.kind] ++ beI 8 (a.n + 9223372036854775808) := by unfold itB; rw [if_pos h1]; rfl
  have hq : 0 ≤ a.n + 9223372036854775808 ∧ a.n + 9223372036854775808 < 18446744073709551616 := by unfold okN at hn; omega
  refine gn 2 Rg.no [kCd (bitL 6 59), KI.block 0, kCd (bitL 3 7)] [(1, SV.one (SC.v (Value.int IntKind.u64 bits))), (2, vR 0 0), (5, SV.one (SC.sl 1 0 1 1)), (11, vI a.kind), (12, vB (a.kind == 1))] [LB.mk [cI a.kind, cI a.n, cF baf, cS Aat a.t.length cat] 49, LB.mk [SC.v (Value.int IntKind.u8 (IntKind.u8.wrap a.kind))] 5] ?_
  try simp only [flx, hbaf, hfaf, nf_1, nf_2]
  refine spl 12 (a.kind == 1) ?_ ?_
  rotate_left
  ·intro hb1
   replace hb1 := beq_eq_false_iff_ne.1 hb1
   (exfalso; omega)
  intro hb1
  replace hb1 := beq_iff_eq.1 hb1
  refine gn 2 (Rg.sq (bitL 8 59) 5) [kCd (bitL 8 187), KI.block 0, kCd (bitL 3 7)] [(14, SV.one (SC.sl 1 0 1 1)), (18, SV.one (SC.v (Value.int IntKind.u64 (IntKind.u64.wrap (↑(BitVec.ofInt IntKind.u64.bits (IntKind.u64.wrap a.n) ^^^ BitVec.ofInt IntKind.u64.bits 9223372036854775808).toNat : Int)))))] [LB.mk [cI a.kind, cI a.n, cF baf, cS Aat a.t.length cat] 49, LB.mk [SC.v (Value.int IntKind.u8 a.kind)] 5] ?_
  try simp only [flx, hbaf, hfaf, nf_1, nf_2]
  refine cak 112 [SV.one (SC.v (Value.int IntKind.u64 (a.n + 9223372036854775808)))] (some 19) (Rg.sq (bitL 8 59) 6) (fun L w1 hs => (l3high_ok (a.n + 9223372036854775808) w1 (by omega) (by omega)).mono ?_)
  rintro e_ w2_ ⟨B_1, d_1, rfl, hf_⟩
  refine ⟨.one (.v (Value.slice B_1 (beI 8 (a.n + 9223372036854775808)).length d_1)), _, _, rfl, fun _ => hf_.1.block, hs.fresh hf_, ?_⟩
  clear hs hf_
  refine gn 2 (Rg.sq (bitL 8 59) 6) [kCd (bitL 8 187), KI.block 0, kCd (bitL 3 7)] [(14, SV.one (SC.sl 1 0 1 1)), (19, vS B_1 8 d_1)] [LB.mk [cI a.kind, cI a.n, cF baf, cS Aat a.t.length cat] 49, LB.mk [SC.v (Value.int IntKind.u8 a.kind)] 5] ?_
  refine export_lit (A := []) (d := kU8) [a.kind] rfl rfl (by kernel_rfl) (by kernel_rfl) (by kernel_rfl) rfl (by simp [maxLen]) (fun h S _ => els_sc _) ?_
  intro g
  refine append_sc (by_ := 1) (e := 5) (by kernel_rfl : atB _ _ _ false = some (Op.call (Call.mk (Callee.builtin Builtin.append) #[tmpO 14, tmpO 19] #[44, 44]), 44, some 20, Rg.sq (bitL 8 59) 7)) (by kernel_rfl) rfl rfl (fun L w1 hs => hs.rd 1 rfl) (by simp [maxLen, beI_len] <;> omega) (by simp [beI_len] <;> omega) ?_
  intro A1 c1
  refine gn 0 Rg.no [kCd (bitL 8 187), KI.block 0, kCd (bitL 3 7)] [(4, vS A1 9 c1)] [] ?_
  refine h_erase 1 _ rfl ?_
  refine gn 0 Rg.no [kCd (bitL 8 187), KI.block 0, kCd (bitL 3 7)] [(4, vS A1 9 c1)] [] ?_
  refine rtk [vS A1 9 c1] ?_
  intro L w1 hs
  rw [hit]; exact ⟨_, _, rfl, hs.out (As := [_])⟩
 by_cases h2 : a.kind = 2
 ·have hit : itB a bits = [a.kind] ++ beI 8 bits := by unfold itB; rw [if_neg h1, if_pos h2]; rfl
  refine gn 2 Rg.no [kCd (bitL 6 59), KI.block 0, kCd (bitL 3 7)] [(1, SV.one (SC.v (Value.int IntKind.u64 bits))), (2, vR 0 0), (5, SV.one (SC.sl 1 0 1 1)), (11, vI a.kind), (12, vB (a.kind == 1))] [LB.mk [cI a.kind, cI a.n, cF baf, cS Aat a.t.length cat] 49, LB.mk [SC.v (Value.int IntKind.u8 (IntKind.u8.wrap a.kind))] 5] ?_
  try simp only [flx, hbaf, hfaf, nf_1, nf_2]
  refine spl 12 (a.kind == 1) ?_ ?_
  ·intro hb1
   replace hb1 := beq_iff_eq.1 hb1
   (exfalso; omega)
  intro hb1
  replace hb1 := beq_eq_false_iff_ne.1 hb1
  refine gn 2 Rg.no [kCd (bitL 8 251), KI.block 0, kCd (bitL 3 7)] [(1, SV.one (SC.v (Value.int IntKind.u64 bits))), (2, vR 0 0), (5, SV.one (SC.sl 1 0 1 1)), (21, vB (a.kind == 2))] [LB.mk [cI a.kind, cI a.n, cF baf, cS Aat a.t.length cat] 49, LB.mk [SC.v (Value.int IntKind.u8 a.kind)] 5] ?_
  refine spl 21 (a.kind == 2) ?_ ?_
  rotate_left
  ·intro hb2
   replace hb2 := beq_eq_false_iff_ne.1 hb2
   (exfalso; omega)
  intro hb2
  replace hb2 := beq_iff_eq.1 hb2
  refine gn 2 (Rg.sq (bitL 10 251) 2) [kCd (bitL 10 763), KI.block 0, kCd (bitL 3 7)] [(23, SV.one (SC.sl 1 0 1 1)), (24, SV.one (SC.v (Value.int IntKind.u64 bits)))] [LB.mk [cI a.kind, cI a.n, cF baf, cS Aat a.t.length cat] 49, LB.mk [SC.v (Value.int IntKind.u8 a.kind)] 5] ?_
  refine cak 112 [SV.one (SC.v (Value.int IntKind.u64 bits))] (some 25) (Rg.sq (bitL 10 251) 3) (fun L w1 hs => (l3high_ok (bits) w1 (by omega) (by omega)).mono ?_)
  rintro e_ w2_ ⟨B_1, d_1, rfl, hf_⟩
  refine ⟨.one (.v (Value.slice B_1 (beI 8 bits).length d_1)), _, _, rfl, fun _ => hf_.1.block, hs.fresh hf_, ?_⟩
  clear hs hf_
  refine gn 2 (Rg.sq (bitL 10 251) 3) [kCd (bitL 10 763), KI.block 0, kCd (bitL 3 7)] [(23, SV.one (SC.sl 1 0 1 1)), (25, vS B_1 8 d_1)] [LB.mk [cI a.kind, cI a.n, cF baf, cS Aat a.t.length cat] 49, LB.mk [SC.v (Value.int IntKind.u8 a.kind)] 5] ?_
  refine export_lit (A := []) (d := kU8) [a.kind] rfl rfl (by kernel_rfl) (by kernel_rfl) (by kernel_rfl) rfl (by simp [maxLen]) (fun h S _ => els_sc _) ?_
  intro g
  refine append_sc (by_ := 1) (e := 5) (by kernel_rfl : atB _ _ _ false = some (Op.call (Call.mk (Callee.builtin Builtin.append) #[tmpO 23, tmpO 25] #[44, 44]), 44, some 26, Rg.sq (bitL 10 251) 4)) (by kernel_rfl) rfl rfl (fun L w1 hs => hs.rd 1 rfl) (by simp [maxLen, beI_len] <;> omega) (by simp [beI_len] <;> omega) ?_
  intro A1 c1
  refine gn 0 Rg.no [kCd (bitL 10 763), KI.block 0, kCd (bitL 3 7)] [(4, vS A1 9 c1)] [] ?_
  refine h_erase 1 _ rfl ?_
  refine gn 0 Rg.no [kCd (bitL 10 763), KI.block 0, kCd (bitL 3 7)] [(4, vS A1 9 c1)] [] ?_
  refine rtk [vS A1 9 c1] ?_
  intro L w1 hs
  rw [hit]; exact ⟨_, _, rfl, hs.out (As := [_])⟩
 have hit : itB a bits = [a.kind] ++ a.t := by unfold itB; rw [if_neg h1, if_neg h2]; rfl
 refine gn 2 Rg.no [kCd (bitL 6 59), KI.block 0, kCd (bitL 3 7)] [(1, SV.one (SC.v (Value.int IntKind.u64 bits))), (2, vR 0 0), (5, SV.one (SC.sl 1 0 1 1)), (11, vI a.kind), (12, vB (a.kind == 1))] [LB.mk [cI a.kind, cI a.n, cF baf, cS Aat a.t.length cat] 49, LB.mk [SC.v (Value.int IntKind.u8 (IntKind.u8.wrap a.kind))] 5] ?_
 try simp only [flx, hbaf, hfaf, nf_1, nf_2]
 refine spl 12 (a.kind == 1) ?_ ?_
 ·intro hb1
  replace hb1 := beq_iff_eq.1 hb1
  (exfalso; omega)
 intro hb1
 replace hb1 := beq_eq_false_iff_ne.1 hb1
 refine gn 2 Rg.no [kCd (bitL 8 251), KI.block 0, kCd (bitL 3 7)] [(1, SV.one (SC.v (Value.int IntKind.u64 bits))), (2, vR 0 0), (5, SV.one (SC.sl 1 0 1 1)), (21, vB (a.kind == 2))] [LB.mk [cI a.kind, cI a.n, cF baf, cS Aat a.t.length cat] 49, LB.mk [SC.v (Value.int IntKind.u8 a.kind)] 5] ?_
 refine spl 21 (a.kind == 2) ?_ ?_
 ·intro hb2
  replace hb2 := beq_iff_eq.1 hb2
  (exfalso; omega)
 intro hb2
 replace hb2 := beq_eq_false_iff_ne.1 hb2
 refine gn 2 (Rg.sq (bitL 4 7) 3) [kCd (bitL 4 15)] [(27, SV.one (SC.sl 1 0 1 1)), (29, vS Aat a.t.length cat)] [LB.mk [cI a.kind, cI a.n, cF baf, cS Aat a.t.length cat] 49, LB.mk [SC.v (Value.int IntKind.u8 a.kind)] 5] ?_
 refine export_lit (A := []) (d := kU8) [a.kind] rfl rfl (by kernel_rfl) (by kernel_rfl) (by kernel_rfl) rfl (by simp [maxLen]) (fun h S _ => els_sc _) ?_
 intro g
 refine append_sc (by_ := 1) (e := 5) (by kernel_rfl : atB _ _ _ false = some (Op.call (Call.mk (Callee.builtin Builtin.append) #[tmpO 27, tmpO 29] #[44, 44]), 44, some 30, Rg.sq (bitL 4 7) 4)) (by kernel_rfl) rfl rfl (fun L w1 hs => rdRow_ext (hs.old 1 rfl) hrat) (by simp [maxLen] <;> omega) (by simp <;> omega) ?_
 intro A1 c1
 refine gn 0 Rg.no [kCd (bitL 4 15)] [(4, vS A1 ([a.kind] ++ a.t).length c1)] [] ?_
 refine rtk [vS A1 ([a.kind] ++ a.t).length c1] ?_
 intro L w1 hs
 rw [hit]; exact ⟨_, _, rfl, hs.out (As := [_])⟩
theorem iKeyB_ok (a : It) (csa : List Value) (w : World) (ha : kIt.rd w.heap a csa) (hn : okN a) (hl : a.t.length ≤ 1048576) :
  Calls Tryz.prog 119 #[.agg csa.toArray] w fun e w' => ∃ (B : Option Addr) (d : Nat), e = .returned (.slice B (keyB a).length d) ∧ Fresh w w' [rowA 5 kU8 (keyB a) (.slice B (keyB a).length d)] := by
 obtain ⟨baf, Aat, cat, rfl, hbaf, hfaf, hrat⟩ := kIt_inv ha
 refine enter (args := [.agg [.v (.int .i64 a.kind), .v (.int .i64 a.n), .v (.float .f64 baf), .v (.slice Aat a.t.length cat)]]) Tryz.func119 (c := bodyOf Tryz.f119) rfl rfl (start_LOK _) (start_old w) ?_
 have hci := canon_lt hbaf
 rw [hfaf] at hci
 have hfr := fRank_bnd hci
 by_cases hok : keyOk a = true
 ·have hit : keyB a = itB a (fRank a.f) := by unfold keyB; rw [if_pos hok]
  have hki := itemOk_kind (keyOk_ok hok)
  have hkd : 0 ≤ a.kind ∧ a.kind ≤ 3 := ⟨hki.1, hki.2.1⟩
  rw [hit]
  have nf_9 : (!keyOk a) = false := by rw [hok]; rfl
  refine gn 1 (Rg.sq (bitL 3 1) 1) [kCd (bitL 3 5), KI.code [true, true]] [(1, vR 0 0), (3, SV.agg [cI a.kind, cI a.n, cF baf, cS Aat a.t.length cat])] [LB.mk [cI a.kind, cI a.n, cF baf, cS Aat a.t.length cat] 49] ?_
  refine cpk 44 [SV.agg [cI a.kind, cI a.n, cF baf, cS Aat a.t.length cat]] (some 4) (Rg.sq (bitL 3 1) 2) (.one (.bo (keyOk a))) (fun L w1 hs => (iKeyOk_ok (a) ([Value.int IntKind.i64 a.kind, Value.int IntKind.i64 a.n, Value.float FloatKind.f64 baf, Value.slice Aat a.t.length cat]) w1 (kIt_mk ‹_› hfaf (rdRow_ext (hs.old 0 rfl) hrat)))) ?_
  refine gn 1 Rg.no [kCd (bitL 3 5), KI.code [true, true]] [(1, vR 0 0), (5, vB !keyOk a)] [LB.mk [cI a.kind, cI a.n, cF baf, cS Aat a.t.length cat] 49] ?_
  try simp only [flx, hbaf, hfaf, hci, nf_9]
  refine gn 1 Rg.no [kCd (bitL 3 5), KI.code [true, true]] [(1, vR 0 0), (5, vB false)] [LB.mk [cI a.kind, cI a.n, cF baf, cS Aat a.t.length cat] 49] ?_
  refine ltk 5 false ?_
  refine gn 0 (Rg.dr (bitL 3 3) (bitL 6 7) 3 2) [kCd (bitL 3 7)] [(6, SV.agg [cI a.kind, cI a.n, cF baf, cS Aat a.t.length cat]), (8, SV.one (cF baf))] [] ?_
  refine cpk 98 [SV.one (cF baf)] (some 9) (Rg.dr (bitL 3 3) (bitL 6 15) 2 10) (.one (.v (Value.int IntKind.u64 (fRank (canonF baf))))) (fun L w1 hs => (iRank_ok (baf) w1 ‹_›)) ?_
  refine gn 0 (Rg.dr (bitL 3 3) (bitL 6 15) 2 10) [kCd (bitL 3 7)] [(6, SV.agg [cI a.kind, cI a.n, cF baf, cS Aat a.t.length cat]), (9, SV.one (SC.v (Value.int IntKind.u64 (fRank (canonF baf)))))] [] ?_
  try simp only [flx, hbaf, hfaf, hci, nf_9]
  refine cak 128 [SV.agg [cI a.kind, cI a.n, cF baf, cS Aat a.t.length cat], SV.one (SC.v (Value.int IntKind.u64 (fRank a.f)))] (some 10) (Rg.dr (bitL 3 3) (bitL 6 31) 1 10) (fun L w1 hs => (iItB_ok (a) ([Value.int IntKind.i64 a.kind, Value.int IntKind.i64 a.n, Value.float FloatKind.f64 baf, Value.slice Aat a.t.length cat]) (fRank a.f) w1 (kIt_mk ‹_› hfaf (rdRow_ext (hs.old 0 rfl) hrat)) ‹_› ‹_› ‹_› ‹_›).mono ?_)
  rintro e_ w2_ ⟨B_1, d_1, rfl, hf_⟩
  refine ⟨.one (.v (Value.slice B_1 (itB a (fRank a.f)).length d_1)), _, _, rfl, fun _ => hf_.1.block, hs.fresh hf_, ?_⟩
  clear hs hf_
  refine gn 0 Rg.no [kCd (bitL 3 7)] [(2, vS B_1 (itB a (fRank a.f)).length d_1)] [] ?_
  refine rtk [vS B_1 (itB a (fRank a.f)).length d_1] ?_
  intro L w1 hs
  exact ⟨_, _, rfl, hs.out (As := [_])⟩
 ·have hit : keyB a = [] := by unfold keyB; rw [if_neg hok]
  rw [hit]
  have nf_9 : (!keyOk a) = true := by rw [Bool.not_eq_true] at hok; rw [hok]; rfl
  refine gn 1 (Rg.sq (bitL 3 1) 1) [kCd (bitL 3 5), KI.code [true, true]] [(1, vR 0 0), (3, SV.agg [cI a.kind, cI a.n, cF baf, cS Aat a.t.length cat])] [LB.mk [cI a.kind, cI a.n, cF baf, cS Aat a.t.length cat] 49] ?_
  refine cpk 44 [SV.agg [cI a.kind, cI a.n, cF baf, cS Aat a.t.length cat]] (some 4) (Rg.sq (bitL 3 1) 2) (.one (.bo (keyOk a))) (fun L w1 hs => (iKeyOk_ok (a) ([Value.int IntKind.i64 a.kind, Value.int IntKind.i64 a.n, Value.float FloatKind.f64 baf, Value.slice Aat a.t.length cat]) w1 (kIt_mk ‹_› hfaf (rdRow_ext (hs.old 0 rfl) hrat)))) ?_
  refine gn 1 Rg.no [kCd (bitL 3 5), KI.code [true, true]] [(1, vR 0 0), (5, vB !keyOk a)] [LB.mk [cI a.kind, cI a.n, cF baf, cS Aat a.t.length cat] 49] ?_
  try simp only [flx, hbaf, hfaf, hci, nf_9]
  refine gn 1 Rg.no [kCd (bitL 3 5), KI.code [true, true]] [(1, vR 0 0), (5, vB true)] [LB.mk [cI a.kind, cI a.n, cF baf, cS Aat a.t.length cat] 49] ?_
  refine ltk 5 true ?_
  refine gn 0 Rg.no [kCd (bitL 5 21), KI.code [true, true]] [(2, vS none 0 0)] [] ?_
  refine rtk [vS none 0 0] ?_
  intro L w1 hs
  exact ⟨none, 0, rfl, hs.out1 rowA_nil⟩
theorem sKeyB_ok (a : It) (csa : List Value) (w : World) (ha : kIt.rd w.heap a csa) (hn : okN a) (hl : a.t.length ≤ 1048576) :
  Calls Tryz.prog 79 #[.agg csa.toArray] w fun e w' => ∃ (B : Option Addr) (d : Nat), e = .returned (.slice B (keyB a).length d) ∧ Fresh w w' [rowA 5 kU8 (keyB a) (.slice B (keyB a).length d)] := by
 obtain ⟨baf, Aat, cat, rfl, hbaf, hfaf, hrat⟩ := kIt_inv ha
 refine enter (args := [.agg [.v (.int .i64 a.kind), .v (.int .i64 a.n), .v (.float .f64 baf), .v (.slice Aat a.t.length cat)]]) Tryz.func79 (c := bodyOf Tryz.f79) rfl rfl (start_LOK _) (start_old w) ?_
 have hci := canon_lt hbaf
 rw [hfaf] at hci
 have hfr := fRank_bnd hci
 by_cases hok : keyOk a = true
 ·have hit : keyB a = itB a (fRank a.f) := by unfold keyB; rw [if_pos hok]
  have hki := itemOk_kind (keyOk_ok hok)
  have hkd : 0 ≤ a.kind ∧ a.kind ≤ 3 := ⟨hki.1, hki.2.1⟩
  rw [hit]
  have nf_9 : (!keyOk a) = false := by rw [hok]; rfl
  refine gn 1 (Rg.sq (bitL 3 1) 1) [kCd (bitL 3 5), KI.code [true, true]] [(1, vR 0 0), (3, SV.agg [cI a.kind, cI a.n, cF baf, cS Aat a.t.length cat])] [LB.mk [cI a.kind, cI a.n, cF baf, cS Aat a.t.length cat] 49] ?_
  refine cpk 41 [SV.agg [cI a.kind, cI a.n, cF baf, cS Aat a.t.length cat]] (some 4) (Rg.sq (bitL 3 1) 2) (.one (.bo (keyOk a))) (fun L w1 hs => (sKeyOk_ok (a) ([Value.int IntKind.i64 a.kind, Value.int IntKind.i64 a.n, Value.float FloatKind.f64 baf, Value.slice Aat a.t.length cat]) w1 (kIt_mk ‹_› hfaf (rdRow_ext (hs.old 0 rfl) hrat)))) ?_
  refine gn 1 Rg.no [kCd (bitL 3 5), KI.code [true, true]] [(1, vR 0 0), (5, vB !keyOk a)] [LB.mk [cI a.kind, cI a.n, cF baf, cS Aat a.t.length cat] 49] ?_
  try simp only [flx, hbaf, hfaf, hci, nf_9]
  refine gn 1 Rg.no [kCd (bitL 3 5), KI.code [true, true]] [(1, vR 0 0), (5, vB false)] [LB.mk [cI a.kind, cI a.n, cF baf, cS Aat a.t.length cat] 49] ?_
  refine ltk 5 false ?_
  refine gn 0 (Rg.dr (bitL 3 3) (bitL 6 7) 3 2) [kCd (bitL 3 7)] [(6, SV.agg [cI a.kind, cI a.n, cF baf, cS Aat a.t.length cat]), (8, SV.one (cF baf))] [] ?_
  refine cpk 95 [SV.one (cF baf)] (some 9) (Rg.dr (bitL 3 3) (bitL 6 15) 2 10) (.one (.v (Value.int IntKind.u64 (fRank (canonF baf))))) (fun L w1 hs => (sRank_ok (baf) w1 ‹_›)) ?_
  refine gn 0 (Rg.dr (bitL 3 3) (bitL 6 15) 2 10) [kCd (bitL 3 7)] [(6, SV.agg [cI a.kind, cI a.n, cF baf, cS Aat a.t.length cat]), (9, SV.one (SC.v (Value.int IntKind.u64 (fRank (canonF baf)))))] [] ?_
  try simp only [flx, hbaf, hfaf, hci, nf_9]
  refine cak 100 [SV.agg [cI a.kind, cI a.n, cF baf, cS Aat a.t.length cat], SV.one (SC.v (Value.int IntKind.u64 (fRank a.f)))] (some 10) (Rg.dr (bitL 3 3) (bitL 6 31) 1 10) (fun L w1 hs => (sItB_ok (a) ([Value.int IntKind.i64 a.kind, Value.int IntKind.i64 a.n, Value.float FloatKind.f64 baf, Value.slice Aat a.t.length cat]) (fRank a.f) w1 (kIt_mk ‹_› hfaf (rdRow_ext (hs.old 0 rfl) hrat)) ‹_› ‹_› ‹_› ‹_›).mono ?_)
  rintro e_ w2_ ⟨B_1, d_1, rfl, hf_⟩
  refine ⟨.one (.v (Value.slice B_1 (itB a (fRank a.f)).length d_1)), _, _, rfl, fun _ => hf_.1.block, hs.fresh hf_, ?_⟩
  clear hs hf_
  refine gn 0 Rg.no [kCd (bitL 3 7)] [(2, vS B_1 (itB a (fRank a.f)).length d_1)] [] ?_
  refine rtk [vS B_1 (itB a (fRank a.f)).length d_1] ?_
  intro L w1 hs
  exact ⟨_, _, rfl, hs.out (As := [_])⟩
 ·have hit : keyB a = [] := by unfold keyB; rw [if_neg hok]
  rw [hit]
  have nf_9 : (!keyOk a) = true := by rw [Bool.not_eq_true] at hok; rw [hok]; rfl
  refine gn 1 (Rg.sq (bitL 3 1) 1) [kCd (bitL 3 5), KI.code [true, true]] [(1, vR 0 0), (3, SV.agg [cI a.kind, cI a.n, cF baf, cS Aat a.t.length cat])] [LB.mk [cI a.kind, cI a.n, cF baf, cS Aat a.t.length cat] 49] ?_
  refine cpk 41 [SV.agg [cI a.kind, cI a.n, cF baf, cS Aat a.t.length cat]] (some 4) (Rg.sq (bitL 3 1) 2) (.one (.bo (keyOk a))) (fun L w1 hs => (sKeyOk_ok (a) ([Value.int IntKind.i64 a.kind, Value.int IntKind.i64 a.n, Value.float FloatKind.f64 baf, Value.slice Aat a.t.length cat]) w1 (kIt_mk ‹_› hfaf (rdRow_ext (hs.old 0 rfl) hrat)))) ?_
  refine gn 1 Rg.no [kCd (bitL 3 5), KI.code [true, true]] [(1, vR 0 0), (5, vB !keyOk a)] [LB.mk [cI a.kind, cI a.n, cF baf, cS Aat a.t.length cat] 49] ?_
  try simp only [flx, hbaf, hfaf, hci, nf_9]
  refine gn 1 Rg.no [kCd (bitL 3 5), KI.code [true, true]] [(1, vR 0 0), (5, vB true)] [LB.mk [cI a.kind, cI a.n, cF baf, cS Aat a.t.length cat] 49] ?_
  refine ltk 5 true ?_
  refine gn 0 Rg.no [kCd (bitL 5 21), KI.code [true, true]] [(2, vS none 0 0)] [] ?_
  refine rtk [vS none 0 0] ?_
  intro L w1 hs
  exact ⟨none, 0, rfl, hs.out1 rowA_nil⟩
theorem iValB_ok (a : It) (csa : List Value) (w : World) (ha : kIt.rd w.heap a csa) (hn : okN a) (hl : a.t.length ≤ 1048576) :
  Calls Tryz.prog 121 #[.agg csa.toArray] w fun e w' => ∃ (B : Option Addr) (d : Nat), e = .returned (.slice B (valB a).length d) ∧ Fresh w w' [rowA 5 kU8 (valB a) (.slice B (valB a).length d)] := by
 obtain ⟨baf, Aat, cat, rfl, hbaf, hfaf, hrat⟩ := kIt_inv ha
 refine enter (args := [.agg [.v (.int .i64 a.kind), .v (.int .i64 a.n), .v (.float .f64 baf), .v (.slice Aat a.t.length cat)]]) Tryz.func121 (c := bodyOf Tryz.f121) rfl rfl (start_LOK _) (start_old w) ?_
 have hci := canon_lt hbaf
 rw [hfaf] at hci
 have hfr := fRank_bnd hci
 by_cases hok : valOk a = true
 ·have hit : valB a = itB a (a.f : Int) := by unfold valB; rw [if_pos hok]
  have hki := itemOk_kind (valOk_ok hok)
  have hkd : 0 ≤ a.kind ∧ a.kind ≤ 3 := ⟨hki.1, hki.2.1⟩
  rw [hit]
  have hcb : 0 ≤ (a.f : Int) ∧ (a.f : Int) < 18446744073709551616 := by omega
  clear hci
  have nf_9 : (!itemOk a) = false := by rw [valOk_ok hok]; rfl
  have hk0 : a.kind ≠ 0 := by unfold valOk at hok; simp only [Bool.and_eq_true, Bool.not_eq_true', decide_eq_false_iff_not] at hok; exact hok.2
  refine gn 1 (Rg.sq (bitL 3 1) 1) [kCd (bitL 3 5), KI.code [true, true]] [(1, vR 0 0), (3, SV.agg [cI a.kind, cI a.n, cF baf, cS Aat a.t.length cat])] [LB.mk [cI a.kind, cI a.n, cF baf, cS Aat a.t.length cat] 49] ?_
  refine cpk 69 [SV.agg [cI a.kind, cI a.n, cF baf, cS Aat a.t.length cat]] (some 4) (Rg.sq (bitL 3 1) 2) (.one (.bo (itemOk a))) (fun L w1 hs => (iItemOk_ok (a) ([Value.int IntKind.i64 a.kind, Value.int IntKind.i64 a.n, Value.float FloatKind.f64 baf, Value.slice Aat a.t.length cat]) w1 (kIt_mk ‹_› hfaf (rdRow_ext (hs.old 0 rfl) hrat)))) ?_
  refine gn 1 (Rg.sq (bitL 3 1) 4) [kCd (bitL 3 5), KI.code [true, true]] [(1, vR 0 0), (6, vB !itemOk a)] [LB.mk [cI a.kind, cI a.n, cF baf, cS Aat a.t.length cat] 49] ?_
  try simp only [flx, hbaf, hfaf, nf_9]
  refine gn 1 (Rg.sq (bitL 3 1) 4) [kCd (bitL 3 5), KI.code [true, true]] [(1, vR 0 0), (6, vB false)] [LB.mk [cI a.kind, cI a.n, cF baf, cS Aat a.t.length cat] 49] ?_
  refine ltk 6 false ?_
  refine gn 1 Rg.no [kCd (bitL 3 5), KI.code [true, true]] [(1, vR 0 0), (10, vB (a.kind == 0))] [LB.mk [cI a.kind, cI a.n, cF baf, cS Aat a.t.length cat] 49] ?_
  refine spl 10 (a.kind == 0) ?_ ?_
  ·intro hb1
   replace hb1 := beq_iff_eq.1 hb1
   (exfalso; omega)
  ·intro hb1
   replace hb1 := beq_eq_false_iff_ne.1 hb1
   refine gn 0 (Rg.dr (bitL 3 3) (bitL 6 7) 3 2) [kCd (bitL 3 7)] [(11, SV.agg [cI a.kind, cI a.n, cF baf, cS Aat a.t.length cat]), (13, SV.one (cF baf))] [] ?_
   refine cpk 129 [SV.one (cF baf)] (some 14) (Rg.dr (bitL 3 3) (bitL 6 15) 2 10) (.one (.v (Value.int IntKind.u64 (↑(canonF baf) : Int)))) (fun L w1 hs => (iFloatBits_ok (baf) w1 ‹_›)) ?_
   refine gn 0 (Rg.dr (bitL 3 3) (bitL 6 15) 2 10) [kCd (bitL 3 7)] [(11, SV.agg [cI a.kind, cI a.n, cF baf, cS Aat a.t.length cat]), (14, SV.one (SC.v (Value.int IntKind.u64 (↑(canonF baf) : Int))))] [] ?_
   try simp only [flx, hbaf, hfaf, nf_9]
   refine cak 128 [SV.agg [cI a.kind, cI a.n, cF baf, cS Aat a.t.length cat], SV.one (SC.v (Value.int IntKind.u64 (↑a.f : Int)))] (some 15) (Rg.dr (bitL 3 3) (bitL 6 31) 1 10) (fun L w1 hs => (iItB_ok (a) ([Value.int IntKind.i64 a.kind, Value.int IntKind.i64 a.n, Value.float FloatKind.f64 baf, Value.slice Aat a.t.length cat]) ((↑a.f : Int)) w1 (kIt_mk ‹_› hfaf (rdRow_ext (hs.old 0 rfl) hrat)) ‹_› ‹_› ‹_› ‹_›).mono ?_)
   rintro e_ w2_ ⟨B_1, d_1, rfl, hf_⟩
   refine ⟨.one (.v (Value.slice B_1 (itB a (↑a.f : Int)).length d_1)), _, _, rfl, fun _ => hf_.1.block, hs.fresh hf_, ?_⟩
   clear hs hf_
   refine gn 0 Rg.no [kCd (bitL 3 7)] [(2, vS B_1 (itB a (↑a.f : Int)).length d_1)] [] ?_
   refine rtk [vS B_1 (itB a (↑a.f : Int)).length d_1] ?_
   intro L w1 hs
   exact ⟨_, _, rfl, hs.out (As := [_])⟩
 ·have hit : valB a = [] := by unfold valB; rw [if_neg hok]
  rw [hit]
  have hno : itemOk a = false ∨ a.kind = 0 := by
   unfold valOk at hok
   cases h1 : itemOk a with
   | false => exact .inl rfl
   | true => rw [h1] at hok; simp at hok; exact .inr hok
  rcases hno with hno | hno
  ·have nf_9 : (!itemOk a) = true := by rw [hno]; rfl
   refine gn 1 (Rg.sq (bitL 3 1) 1) [kCd (bitL 3 5), KI.code [true, true]] [(1, vR 0 0), (3, SV.agg [cI a.kind, cI a.n, cF baf, cS Aat a.t.length cat])] [LB.mk [cI a.kind, cI a.n, cF baf, cS Aat a.t.length cat] 49] ?_
   refine cpk 69 [SV.agg [cI a.kind, cI a.n, cF baf, cS Aat a.t.length cat]] (some 4) (Rg.sq (bitL 3 1) 2) (.one (.bo (itemOk a))) (fun L w1 hs => (iItemOk_ok (a) ([Value.int IntKind.i64 a.kind, Value.int IntKind.i64 a.n, Value.float FloatKind.f64 baf, Value.slice Aat a.t.length cat]) w1 (kIt_mk ‹_› hfaf (rdRow_ext (hs.old 0 rfl) hrat)))) ?_
   refine gn 1 (Rg.sq (bitL 3 1) 4) [kCd (bitL 3 5), KI.code [true, true]] [(1, vR 0 0), (6, vB !itemOk a)] [LB.mk [cI a.kind, cI a.n, cF baf, cS Aat a.t.length cat] 49] ?_
   try simp only [flx, hbaf, hfaf, hci, nf_9]
   refine gn 1 (Rg.sq (bitL 3 1) 4) [kCd (bitL 3 5), KI.code [true, true]] [(1, vR 0 0), (6, vB true)] [LB.mk [cI a.kind, cI a.n, cF baf, cS Aat a.t.length cat] 49] ?_
   refine ltk 6 true ?_
   refine gn 0 Rg.no [kCd (bitL 5 21), KI.code [true, true]] [(2, vS none 0 0)] [] ?_
   refine rtk [vS none 0 0] ?_
   intro L w1 hs
   exact ⟨none, 0, rfl, hs.out1 rowA_nil⟩
  refine gn 1 (Rg.sq (bitL 3 1) 1) [kCd (bitL 3 5), KI.code [true, true]] [(1, vR 0 0), (3, SV.agg [cI a.kind, cI a.n, cF baf, cS Aat a.t.length cat])] [LB.mk [cI a.kind, cI a.n, cF baf, cS Aat a.t.length cat] 49] ?_
  refine cpk 69 [SV.agg [cI a.kind, cI a.n, cF baf, cS Aat a.t.length cat]] (some 4) (Rg.sq (bitL 3 1) 2) (.one (.bo (itemOk a))) (fun L w1 hs => (iItemOk_ok (a) ([Value.int IntKind.i64 a.kind, Value.int IntKind.i64 a.n, Value.float FloatKind.f64 baf, Value.slice Aat a.t.length cat]) w1 (kIt_mk ‹_› hfaf (rdRow_ext (hs.old 0 rfl) hrat)))) ?_
  refine gn 1 (Rg.sq (bitL 3 1) 4) [kCd (bitL 3 5), KI.code [true, true]] [(1, vR 0 0), (6, vB !itemOk a)] [LB.mk [cI a.kind, cI a.n, cF baf, cS Aat a.t.length cat] 49] ?_
  refine spl 6 (!itemOk a) ?_ ?_
  ·intro hb1
   try simp only [sbb] at hb1
   refine gn 0 Rg.no [kCd (bitL 5 21), KI.code [true, true]] [(2, vS none 0 0)] [] ?_
   refine rtk [vS none 0 0] ?_
   intro L w1 hs
   exact ⟨none, 0, rfl, hs.out1 rowA_nil⟩
  ·intro hb1
   try simp only [sbb] at hb1
   refine gn 1 Rg.no [kCd (bitL 3 5), KI.code [true, true]] [(1, vR 0 0), (10, vB (a.kind == 0))] [LB.mk [cI a.kind, cI a.n, cF baf, cS Aat a.t.length cat] 49] ?_
   refine spl 10 (a.kind == 0) ?_ ?_
   ·intro hb2
    replace hb2 := beq_iff_eq.1 hb2
    refine gn 0 Rg.no [kCd (bitL 5 21), KI.code [true, true]] [(2, vS none 0 0)] [] ?_
    refine rtk [vS none 0 0] ?_
    intro L w1 hs
    exact ⟨none, 0, rfl, hs.out1 rowA_nil⟩
   ·intro hb2
    replace hb2 := beq_eq_false_iff_ne.1 hb2
    (exfalso; omega)
theorem sValB_ok (a : It) (csa : List Value) (w : World) (ha : kIt.rd w.heap a csa) (hn : okN a) (hl : a.t.length ≤ 1048576) :
  Calls Tryz.prog 81 #[.agg csa.toArray] w fun e w' => ∃ (B : Option Addr) (d : Nat), e = .returned (.slice B (valB a).length d) ∧ Fresh w w' [rowA 5 kU8 (valB a) (.slice B (valB a).length d)] := by
 obtain ⟨baf, Aat, cat, rfl, hbaf, hfaf, hrat⟩ := kIt_inv ha
 refine enter (args := [.agg [.v (.int .i64 a.kind), .v (.int .i64 a.n), .v (.float .f64 baf), .v (.slice Aat a.t.length cat)]]) Tryz.func81 (c := bodyOf Tryz.f81) rfl rfl (start_LOK _) (start_old w) ?_
 have hci := canon_lt hbaf
 rw [hfaf] at hci
 have hfr := fRank_bnd hci
 by_cases hok : valOk a = true
 ·have hit : valB a = itB a (a.f : Int) := by unfold valB; rw [if_pos hok]
  have hki := itemOk_kind (valOk_ok hok)
  have hkd : 0 ≤ a.kind ∧ a.kind ≤ 3 := ⟨hki.1, hki.2.1⟩
  rw [hit]
  have hcb : 0 ≤ (a.f : Int) ∧ (a.f : Int) < 18446744073709551616 := by omega
  clear hci
  have nf_9 : (!itemOk a) = false := by rw [valOk_ok hok]; rfl
  have hk0 : a.kind ≠ 0 := by unfold valOk at hok; simp only [Bool.and_eq_true, Bool.not_eq_true', decide_eq_false_iff_not] at hok; exact hok.2
  refine gn 1 (Rg.sq (bitL 3 1) 1) [kCd (bitL 3 5), KI.code [true, true]] [(1, vR 0 0), (3, SV.agg [cI a.kind, cI a.n, cF baf, cS Aat a.t.length cat])] [LB.mk [cI a.kind, cI a.n, cF baf, cS Aat a.t.length cat] 49] ?_
  refine cpk 65 [SV.agg [cI a.kind, cI a.n, cF baf, cS Aat a.t.length cat]] (some 4) (Rg.sq (bitL 3 1) 2) (.one (.bo (itemOk a))) (fun L w1 hs => (sItemOk_ok (a) ([Value.int IntKind.i64 a.kind, Value.int IntKind.i64 a.n, Value.float FloatKind.f64 baf, Value.slice Aat a.t.length cat]) w1 (kIt_mk ‹_› hfaf (rdRow_ext (hs.old 0 rfl) hrat)))) ?_
  refine gn 1 (Rg.sq (bitL 3 1) 4) [kCd (bitL 3 5), KI.code [true, true]] [(1, vR 0 0), (6, vB !itemOk a)] [LB.mk [cI a.kind, cI a.n, cF baf, cS Aat a.t.length cat] 49] ?_
  try simp only [flx, hbaf, hfaf, nf_9]
  refine gn 1 (Rg.sq (bitL 3 1) 4) [kCd (bitL 3 5), KI.code [true, true]] [(1, vR 0 0), (6, vB false)] [LB.mk [cI a.kind, cI a.n, cF baf, cS Aat a.t.length cat] 49] ?_
  refine ltk 6 false ?_
  refine gn 1 Rg.no [kCd (bitL 3 5), KI.code [true, true]] [(1, vR 0 0), (10, vB (a.kind == 0))] [LB.mk [cI a.kind, cI a.n, cF baf, cS Aat a.t.length cat] 49] ?_
  refine spl 10 (a.kind == 0) ?_ ?_
  ·intro hb1
   replace hb1 := beq_iff_eq.1 hb1
   (exfalso; omega)
  ·intro hb1
   replace hb1 := beq_eq_false_iff_ne.1 hb1
   refine gn 0 (Rg.dr (bitL 3 3) (bitL 6 7) 3 2) [kCd (bitL 3 7)] [(11, SV.agg [cI a.kind, cI a.n, cF baf, cS Aat a.t.length cat]), (13, SV.one (cF baf))] [] ?_
   refine cpk 66 [SV.one (cF baf)] (some 14) (Rg.dr (bitL 3 3) (bitL 6 15) 2 10) (.one (.v (Value.int IntKind.u64 (↑(canonF baf) : Int)))) (fun L w1 hs => (sFloatBits_ok (baf) w1 ‹_›)) ?_
   refine gn 0 (Rg.dr (bitL 3 3) (bitL 6 15) 2 10) [kCd (bitL 3 7)] [(11, SV.agg [cI a.kind, cI a.n, cF baf, cS Aat a.t.length cat]), (14, SV.one (SC.v (Value.int IntKind.u64 (↑(canonF baf) : Int))))] [] ?_
   try simp only [flx, hbaf, hfaf, nf_9]
   refine cak 100 [SV.agg [cI a.kind, cI a.n, cF baf, cS Aat a.t.length cat], SV.one (SC.v (Value.int IntKind.u64 (↑a.f : Int)))] (some 15) (Rg.dr (bitL 3 3) (bitL 6 31) 1 10) (fun L w1 hs => (sItB_ok (a) ([Value.int IntKind.i64 a.kind, Value.int IntKind.i64 a.n, Value.float FloatKind.f64 baf, Value.slice Aat a.t.length cat]) ((↑a.f : Int)) w1 (kIt_mk ‹_› hfaf (rdRow_ext (hs.old 0 rfl) hrat)) ‹_› ‹_› ‹_› ‹_›).mono ?_)
   rintro e_ w2_ ⟨B_1, d_1, rfl, hf_⟩
   refine ⟨.one (.v (Value.slice B_1 (itB a (↑a.f : Int)).length d_1)), _, _, rfl, fun _ => hf_.1.block, hs.fresh hf_, ?_⟩
   clear hs hf_
   refine gn 0 Rg.no [kCd (bitL 3 7)] [(2, vS B_1 (itB a (↑a.f : Int)).length d_1)] [] ?_
   refine rtk [vS B_1 (itB a (↑a.f : Int)).length d_1] ?_
   intro L w1 hs
   exact ⟨_, _, rfl, hs.out (As := [_])⟩
 ·have hit : valB a = [] := by unfold valB; rw [if_neg hok]
  rw [hit]
  have hno : itemOk a = false ∨ a.kind = 0 := by
   unfold valOk at hok
   cases h1 : itemOk a with
   | false => exact .inl rfl
   | true => rw [h1] at hok; simp at hok; exact .inr hok
  rcases hno with hno | hno
  ·have nf_9 : (!itemOk a) = true := by rw [hno]; rfl
   refine gn 1 (Rg.sq (bitL 3 1) 1) [kCd (bitL 3 5), KI.code [true, true]] [(1, vR 0 0), (3, SV.agg [cI a.kind, cI a.n, cF baf, cS Aat a.t.length cat])] [LB.mk [cI a.kind, cI a.n, cF baf, cS Aat a.t.length cat] 49] ?_
   refine cpk 65 [SV.agg [cI a.kind, cI a.n, cF baf, cS Aat a.t.length cat]] (some 4) (Rg.sq (bitL 3 1) 2) (.one (.bo (itemOk a))) (fun L w1 hs => (sItemOk_ok (a) ([Value.int IntKind.i64 a.kind, Value.int IntKind.i64 a.n, Value.float FloatKind.f64 baf, Value.slice Aat a.t.length cat]) w1 (kIt_mk ‹_› hfaf (rdRow_ext (hs.old 0 rfl) hrat)))) ?_
   refine gn 1 (Rg.sq (bitL 3 1) 4) [kCd (bitL 3 5), KI.code [true, true]] [(1, vR 0 0), (6, vB !itemOk a)] [LB.mk [cI a.kind, cI a.n, cF baf, cS Aat a.t.length cat] 49] ?_
   try simp only [flx, hbaf, hfaf, hci, nf_9]
   refine gn 1 (Rg.sq (bitL 3 1) 4) [kCd (bitL 3 5), KI.code [true, true]] [(1, vR 0 0), (6, vB true)] [LB.mk [cI a.kind, cI a.n, cF baf, cS Aat a.t.length cat] 49] ?_
   refine ltk 6 true ?_
   refine gn 0 Rg.no [kCd (bitL 5 21), KI.code [true, true]] [(2, vS none 0 0)] [] ?_
   refine rtk [vS none 0 0] ?_
   intro L w1 hs
   exact ⟨none, 0, rfl, hs.out1 rowA_nil⟩
  refine gn 1 (Rg.sq (bitL 3 1) 1) [kCd (bitL 3 5), KI.code [true, true]] [(1, vR 0 0), (3, SV.agg [cI a.kind, cI a.n, cF baf, cS Aat a.t.length cat])] [LB.mk [cI a.kind, cI a.n, cF baf, cS Aat a.t.length cat] 49] ?_
  refine cpk 65 [SV.agg [cI a.kind, cI a.n, cF baf, cS Aat a.t.length cat]] (some 4) (Rg.sq (bitL 3 1) 2) (.one (.bo (itemOk a))) (fun L w1 hs => (sItemOk_ok (a) ([Value.int IntKind.i64 a.kind, Value.int IntKind.i64 a.n, Value.float FloatKind.f64 baf, Value.slice Aat a.t.length cat]) w1 (kIt_mk ‹_› hfaf (rdRow_ext (hs.old 0 rfl) hrat)))) ?_
  refine gn 1 (Rg.sq (bitL 3 1) 4) [kCd (bitL 3 5), KI.code [true, true]] [(1, vR 0 0), (6, vB !itemOk a)] [LB.mk [cI a.kind, cI a.n, cF baf, cS Aat a.t.length cat] 49] ?_
  refine spl 6 (!itemOk a) ?_ ?_
  ·intro hb1
   try simp only [sbb] at hb1
   refine gn 0 Rg.no [kCd (bitL 5 21), KI.code [true, true]] [(2, vS none 0 0)] [] ?_
   refine rtk [vS none 0 0] ?_
   intro L w1 hs
   exact ⟨none, 0, rfl, hs.out1 rowA_nil⟩
  ·intro hb1
   try simp only [sbb] at hb1
   refine gn 1 Rg.no [kCd (bitL 3 5), KI.code [true, true]] [(1, vR 0 0), (10, vB (a.kind == 0))] [LB.mk [cI a.kind, cI a.n, cF baf, cS Aat a.t.length cat] 49] ?_
   refine spl 10 (a.kind == 0) ?_ ?_
   ·intro hb2
    replace hb2 := beq_iff_eq.1 hb2
    refine gn 0 Rg.no [kCd (bitL 5 21), KI.code [true, true]] [(2, vS none 0 0)] [] ?_
    refine rtk [vS none 0 0] ?_
    intro L w1 hs
    exact ⟨none, 0, rfl, hs.out1 rowA_nil⟩
   ·intro hb2
    replace hb2 := beq_eq_false_iff_ne.1 hb2
    (exfalso; omega)
end Go.Proofs.YtgleoebogikooaaGreat.Dk
