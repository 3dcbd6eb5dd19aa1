/- Walks of functions of the program: what each call returns and what it leaves in memory. Conditions: those that each theorem names. -/
import Derived.Test.YtgleoebogikooaaY2
namespace Go.Proofs.Ytgleoebogikooaa.Dk
set_option linter.unusedVariables false
set_option linter.unusedSimpArgs false
open Go.Proofs.Ytgleoebogikooaa.Sx Go.Proofs Go.RowKit
set_option maxRecDepth 100000
set_option maxHeartbeats 1000000
theorem iSlots_ok (p : Pg) (csp : List Value) (w : World) (hp : kPg.rd w.heap p csp) (hl : p.slots.length ≤ 1048576) (hs1 : ∀ s ∈ p.slots, s.length ≤ 1048576) :
    Calls Try.prog 132 #[.agg csp.toArray] w fun e w' => ∃ (B : Option Addr) (d : Nat), e = .returned (.slice B p.slots.length d) ∧ Fresh w w' [rowA 40 (kRow 5 kU8) p.slots (.slice B p.slots.length d)] := by
  obtain ⟨Apslots, cpslots, rfl, hrpslots⟩ := kPg_inv hp
  refine enter (args := [.agg [.v (.int .i64 p.lsn), .v (.slice Apslots p.slots.length cpslots)]]) Try.func132 (c := bodyOf Try.f132) rfl rfl (start_LOK _) (start_old w) ?_
  have rows_on : True := trivial
  have sd_1 : ∀ (j : Nat) (h : j < p.slots.length), p.slots[j].length ≤ 1048576 := fun j h => hs1 _ (List.getElem_mem h)
  refine h_nil 40 (kRow 5 kU8) ?_
  refine gm [3, 7, 8, 9] 0 (St.mk Rg.no [kLp (bitL 6 59), KI.block 0, kCd (bitL 3 7)] [(3, vS none 0 0), (7, vS Apslots p.slots.length cpslots), (8, vI (↑p.slots.length : Int)), (9, vI 0)] []) ?_
  refine loop_at (ι := Nat × Option Addr × Nat) (fun s => [(9, .one (.v (.int .i64 s.1))), (3, .one (.v (.slice s.2.1 s.1 s.2.2)))]) (fun _ => []) (fun s => [rowA 40 (kRow 5 kU8) (p.slots.take s.1) (.slice s.2.1 s.1 s.2.2), oldA w]) (fun s => s.1 ≤ p.slots.length) (fun s => p.slots.length - s.1) (0, none, 0) rfl rfl rfl (Nat.zero_le _) ?_
  rintro ⟨i, B, d⟩ hi ih
  simp only at hi ih ⊢
  rcases Nat.lt_or_ge i p.slots.length with hlt | hge
  · refine gm [3, 7, 8, 9, 10] 0 (St.mk Rg.no [kCd (bitL 8 123), kCd (bitL 8 251), kLp (bitL 6 59), KI.block 0, kCd (bitL 3 7)] [(3, vS B i d), (7, vS Apslots p.slots.length cpslots), (8, vI (↑p.slots.length : Int)), (9, vI (↑i : Int)), (10, vB (decide ((↑i : Int) < (↑p.slots.length : Int))))] []) ?_
    refine spl 10 (decide ((↑i : Int) < (↑p.slots.length : Int))) ?_ ?_
    rotate_left
    · intro hb1
      replace hb1 := of_decide_eq_false hb1
      (exfalso; omega)
    intro hb1
    replace hb1 := of_decide_eq_true hb1
    refine gm [3, 7, 8, 9] 0 (St.mk (Rg.sq (bitL 11 763) 0) [kCd (bitL 11 1787), KI.block 1, kCd (bitL 9 507), kLp (bitL 6 59), KI.block 0, kCd (bitL 3 7)] [(3, vS B i d), (7, vS Apslots p.slots.length cpslots), (8, vI (↑p.slots.length : Int)), (9, vI (↑i : Int))] []) ?_
    refine index_at 0 (by kernel_rfl : atP _ _ _ 0 false = some (Op.indexAddr 113 (tmpO 7) (tmpO 9), 0, some 11, Rg.sq (bitL 11 763) 1)) (ni := i) (sz := 1) (by kernel_rfl) rfl rfl rfl (by assumption) (fun L w1 hs => rd_some (i := i) (rdRow_ext (hs.old 1 rfl) hrpslots) (by assumption)) ?_
    intro a_1 ha_1
    cases ha_1
    refine gm [3, 7, 8, 9, 11] 0 (St.mk (Rg.sq (bitL 11 763) 1) [kCd (bitL 11 1787), KI.block 1, kCd (bitL 9 507), kLp (bitL 6 59), KI.block 0, kCd (bitL 3 7)] [(3, vS B i d), (7, vS (some a_1) p.slots.length cpslots), (8, vI (↑p.slots.length : Int)), (9, vI (↑i : Int)), (11, vP (a_1.add (i * 1)))] []) ?_
    obtain ⟨Ai_r1, ci_r1, hce_r1, hrw_r1⟩ := rd_row (i := i) hrpslots (by assumption)
    refine load_one 1 (by kernel_rfl : atP _ _ _ 1 true = some (Op.load 40 (tmpO 11), 40, some 12, Rg.sq (bitL 11 763) 2)) (n := 1) (by kernel_rfl) rfl ?_
    intro L w1 hs
    refine ⟨.v (.slice Ai_r1 ((p.slots)[i]'(by assumption)).length ci_r1), cellH_ext (hs.old 1 rfl) hce_r1, ?_⟩
    clear hs
    refine gm [7, 8, 9, 13, 14] 0 (St.mk (Rg.sq (bitL 11 1787) 2) [KI.block 1, kCd (bitL 9 507), kLp (bitL 6 59), KI.block 0, kCd (bitL 3 7)] [(7, vS (some a_1) p.slots.length cpslots), (8, vI (↑p.slots.length : Int)), (9, vI (↑i : Int)), (13, vS B i d), (14, vS Ai_r1 p.slots[i].length ci_r1)] []) ?_
    refine call_at true (by kernel_rfl : atC _ _ _ true = some (173, [vS Ai_r1 p.slots[i].length ci_r1], some 15, Rg.sq (bitL 11 1787) 3)) (by kernel_rfl) (fun L w1 hs => (Go.Proofs.Ytgleoebogikooaa.Dk.cloneB_ok (p.slots[i]) (Value.slice Ai_r1 p.slots[i].length ci_r1) w1 (rdRow_ext (hs.old 1 rfl) hrw_r1) (by exact sd_1 _ _)).mono ?_)
    rintro e_ w2_ ⟨B_1, d_1, rfl, hf_⟩
    refine ⟨.one (.v (Value.slice B_1 p.slots[i].length d_1)), _, _, rfl, fun _ => hf_.1.block, hs.fresh hf_, ?_⟩
    clear hs hf_
    refine gm [7, 8, 9, 13, 16] 1 (St.mk (Rg.sq (bitL 11 1787) 4) [KI.block 1, kCd (bitL 9 507), kLp (bitL 6 59), KI.block 0, kCd (bitL 3 7)] [(7, vS (some a_1) p.slots.length cpslots), (8, vI (↑p.slots.length : Int)), (9, vI (↑i : Int)), (13, vS B i d), (16, SV.one (SC.sl 0 0 1 1))] [LB.mk [cS B_1 p.slots[i].length d_1] 40]) ?_
    refine h_turn (A := [_]) (B := [elA (kRow 5 kU8) p.slots[i] [.slice B_1 p.slots[i].length d_1]]) (fun h S ho => one_el (row_el ho)) ?_
    refine h_swap ?_
    have e1 := take_len hi
    refine append_lit (d := (kRow 5 kU8)) (by_ := 24) (by kernel_rfl : atB _ _ _ false = some (Op.call (Call.mk (Callee.builtin Builtin.append) #[tmpO 13, tmpO 16] #[113, 113]), 113, some 17, Rg.sq (bitL 11 1787) 5)) (by kernel_rfl) rfl rfl rfl rfl (by simp only [maxLen]; omega) (by omega) ?_
    intro B' d'
    rw [← List.take_succ_eq_append_getElem hlt, take_len hlt]
    refine gm [3, 7, 8, 9] 0 (St.mk Rg.no [kLp (bitL 6 59), KI.block 0, kCd (bitL 3 7)] [(3, vS B' i.succ d'), (7, vS (some a_1) p.slots.length cpslots), (8, vI (↑p.slots.length : Int)), (9, vI (IntKind.i64.wrap ((↑i : Int) + 1)))] []) ?_
    rw [wrap_succ (by omega)]
    exact ih (i + 1, B', d') hlt (by simp only; omega)
  · obtain rfl : i = p.slots.length := by omega
    rw [List.take_length]
    refine gm [3, 7, 8, 9, 10] 0 (St.mk Rg.no [kCd (bitL 8 123), kCd (bitL 8 251), kLp (bitL 6 59), KI.block 0, kCd (bitL 3 7)] [(3, vS B p.slots.length d), (7, vS Apslots p.slots.length cpslots), (8, vI (↑p.slots.length : Int)), (9, vI (↑p.slots.length : Int)), (10, vB (decide ((↑p.slots.length : Int) < (↑p.slots.length : Int))))] []) ?_
    refine spl 10 (decide ((↑p.slots.length : Int) < (↑p.slots.length : Int))) ?_ ?_
    · intro hb1
      replace hb1 := of_decide_eq_true hb1
      (exfalso; omega)
    · intro hb1
      replace hb1 := of_decide_eq_false hb1
      refine gm [2] 0 (St.mk Rg.no [kCd (bitL 4 15)] [(2, vS B p.slots.length d)] []) ?_
      refine rtk [vS B p.slots.length d] ?_
      intro L w1 hs
      exact ⟨_, _, rfl, hs.out (As := [_])⟩

theorem l7copy_ok (p : Pg) (csp : List Value) (w : World) (hp : kPg.rd w.heap p csp) (hl : p.slots.length ≤ 1048576) (hs1 : ∀ s ∈ p.slots, s.length ≤ 1048576) :
    Calls Try.prog 130 #[.agg csp.toArray] w fun e w' => ∃ (B : Option Addr) (d : Nat), e = .returned (.agg #[.int .i64 p.lsn, .slice B p.slots.length d]) ∧ Fresh w w' [rowA 40 (kRow 5 kU8) p.slots (.slice B p.slots.length d)] := by
  obtain ⟨Apslots, cpslots, rfl, hrpslots⟩ := kPg_inv hp
  refine enter (args := [.agg [.v (.int .i64 p.lsn), .v (.slice Apslots p.slots.length cpslots)]]) Try.func130 (c := bodyOf Try.f130) rfl rfl (start_LOK _) (start_old w) ?_
  have rows_on : True := trivial
  have sd_1 : ∀ (j : Nat) (h : j < p.slots.length), p.slots[j].length ≤ 1048576 := fun j h => hs1 _ (List.getElem_mem h)
  refine h_nil 40 (kRow 5 kU8) ?_
  refine gm [1, 2, 3, 4] 3 (St.mk Rg.no [kLp (bitL 6 59), KI.block 0, kCd (bitL 3 7)] [(1, vR 0 0), (2, vR 1 0), (3, vR 2 0), (4, vI 0)] [LB.mk [cI p.lsn, cS Apslots p.slots.length cpslots] 115, LB.mk [cI 0, cS none 0 0] 115, LB.mk [cI p.lsn, cS none 0 0] 115]) ?_
  refine loop_at (ι := Nat × Option Addr × Nat) (fun s => [(4, .one (.v (.int .i64 s.1)))]) (fun s => [(2, ⟨[.v (.int .i64 p.lsn), .v (.slice s.2.1 s.1 s.2.2)], 115⟩)]) (fun s => [rowA 40 (kRow 5 kU8) (p.slots.take s.1) (.slice s.2.1 s.1 s.2.2), oldA w]) (fun s => s.1 ≤ p.slots.length) (fun s => p.slots.length - s.1) (0, none, 0) rfl rfl rfl (Nat.zero_le _) ?_
  rintro ⟨i, B, d⟩ hi ih
  simp only at hi ih ⊢
  rcases Nat.lt_or_ge i p.slots.length with hlt | hge
  · have hsi := sd_1 i hlt
    refine gm [1, 2, 3, 4, 12] 3 (St.mk Rg.no [kCd (bitL 8 187), kCd (bitL 7 123), kLp (bitL 6 59), KI.block 0, kCd (bitL 3 7)] [(1, vR 0 0), (2, vR 1 0), (3, vR 2 0), (4, vI (↑i : Int)), (12, vB (decide ((↑i : Int) < (↑p.slots.length : Int))))] [LB.mk [cI p.lsn, cS Apslots p.slots.length cpslots] 115, LB.mk [cI 0, cS none 0 0] 115, LB.mk [cI p.lsn, cS B i d] 115]) ?_
    refine spl 12 (decide ((↑i : Int) < (↑p.slots.length : Int))) ?_ ?_
    rotate_left
    · intro hb1
      replace hb1 := of_decide_eq_false hb1
      (exfalso; omega)
    intro hb1
    replace hb1 := of_decide_eq_true hb1
    refine gm [1, 2, 3, 4, 16, 19, 20] 3 (St.mk (Rg.dr (bitL 9 379) (bitL 13 59) 8 2) [KI.block 1, kCd (bitL 8 251), kLp (bitL 6 59), KI.block 0, kCd (bitL 3 7)] [(1, vR 0 0), (2, vR 1 0), (3, vR 2 0), (4, vI (↑i : Int)), (16, vS B i d), (19, vS Apslots p.slots.length cpslots), (20, vI (↑i : Int))] [LB.mk [cI p.lsn, cS Apslots p.slots.length cpslots] 115, LB.mk [cI 0, cS none 0 0] 115, LB.mk [cI p.lsn, cS B i d] 115]) ?_
    refine index_at 6 (by kernel_rfl : atP _ _ _ 6 false = some (Op.indexAddr 113 (tmpO 19) (tmpO 20), 0, some 21, Rg.dr (bitL 9 379) (bitL 13 123) 7 2)) (ni := i) (sz := 1) (by kernel_rfl) rfl rfl rfl (by assumption) (fun L w1 hs => rd_some (i := i) (rdRow_ext (hs.old 1 rfl) hrpslots) (by assumption)) ?_
    intro a_1 ha_1
    cases ha_1
    refine gm [1, 2, 3, 4, 16, 21] 3 (St.mk (Rg.dr (bitL 9 379) (bitL 13 123) 7 2) [KI.block 1, kCd (bitL 8 251), kLp (bitL 6 59), KI.block 0, kCd (bitL 3 7)] [(1, vR 0 0), (2, vR 1 0), (3, vR 2 0), (4, vI (↑i : Int)), (16, vS B i d), (21, vP (a_1.add (i * 1)))] [LB.mk [cI p.lsn, cS (some a_1) p.slots.length cpslots] 115, LB.mk [cI 0, cS none 0 0] 115, LB.mk [cI p.lsn, cS B i d] 115]) ?_
    obtain ⟨Ai_r1, ci_r1, hce_r1, hrw_r1⟩ := rd_row (i := i) hrpslots (by assumption)
    refine load_one 7 (by kernel_rfl : atP _ _ _ 7 true = some (Op.load 40 (tmpO 21), 40, some 22, Rg.dr (bitL 9 379) (bitL 13 251) 6 2)) (n := 1) (by kernel_rfl) rfl ?_
    intro L w1 hs
    refine ⟨.v (.slice Ai_r1 ((p.slots)[i]'(by assumption)).length ci_r1), cellH_ext (hs.old 1 rfl) hce_r1, ?_⟩
    clear hs
    refine gm [1, 2, 3, 4, 16, 17, 22] 4 (St.mk (Rg.dr (bitL 9 379) (bitL 13 255) 5 13) [KI.block 1, kCd (bitL 8 251), kLp (bitL 6 59), KI.block 0, kCd (bitL 3 7)] [(1, vR 0 0), (2, vR 1 0), (3, vR 2 0), (4, vI (↑i : Int)), (16, vS B i d), (17, SV.one (SC.sl 3 0 0 0)), (22, vS Ai_r1 p.slots[i].length ci_r1)] [LB.mk [cI p.lsn, cS (some a_1) p.slots.length cpslots] 115, LB.mk [cI 0, cS none 0 0] 115, LB.mk [cI p.lsn, cS B i d] 115, LB.mk [] 5]) ?_
    refine append_newK (by_ := 1) (e := 5) (by kernel_rfl : atB _ _ _ true = some (Op.call (Call.mk (Callee.builtin Builtin.append) #[tmpO 17, tmpO 22] #[40, 40]), 40, some 23, Rg.dr (bitL 9 379) (bitL 13 511) 4 13)) (by kernel_rfl) (fun L => ⟨_, rfl⟩) rfl (fun L w1 hs => rdRow_ext (hs.old 1 rfl) hrw_r1) (by simp only [maxLen]; omega) (by omega) ?_
    intro A1 c1
    refine gm [1, 2, 3, 4, 16, 24] 5 (St.mk (Rg.dr (bitL 9 379) (bitL 13 1023) 3 13) [KI.block 1, kCd (bitL 8 251), kLp (bitL 6 59), KI.block 0, kCd (bitL 3 7)] [(1, vR 0 0), (2, vR 1 0), (3, vR 2 0), (4, vI (↑i : Int)), (16, vS B i d), (24, SV.one (SC.sl 4 0 1 1))] [LB.mk [cI p.lsn, cS (some a_1) p.slots.length cpslots] 115, LB.mk [cI 0, cS none 0 0] 115, LB.mk [cI p.lsn, cS B i d] 115, LB.mk [] 5, LB.mk [cS A1 p.slots[i].length c1] 40]) ?_
    refine h_turn (A := [_]) (B := [elA (kRow 5 kU8) p.slots[i] [.slice A1 p.slots[i].length c1]]) (fun h S ho => one_el (row_el ho)) ?_
    refine h_swap ?_
    have e1 := take_len hi
    refine append_lit (d := (kRow 5 kU8)) (by_ := 24) (by kernel_rfl : atB _ _ _ false = some (Op.call (Call.mk (Callee.builtin Builtin.append) #[tmpO 16, tmpO 24] #[113, 113]), 113, some 25, Rg.dr (bitL 9 379) (bitL 13 2047) 2 0)) (by kernel_rfl) rfl rfl rfl rfl (by simp only [maxLen]; omega) (by omega) ?_
    intro B' d'
    rw [← List.take_succ_eq_append_getElem hlt, take_len hlt]
    refine gm [1, 2, 3, 4] 3 (St.mk Rg.no [kLp (bitL 6 59), KI.block 0, kCd (bitL 3 7)] [(1, vR 0 0), (2, vR 1 0), (3, vR 2 0), (4, vI (IntKind.i64.wrap ((↑i : Int) + 1)))] [LB.mk [cI p.lsn, cS (some a_1) p.slots.length cpslots] 115, LB.mk [cI 0, cS none 0 0] 115, LB.mk [cI p.lsn, cS B' i.succ d'] 115]) ?_
    rw [wrap_succ (by omega)]
    exact ih (i + 1, B', d') hlt (by simp only; omega)
  · obtain rfl : i = p.slots.length := by omega
    rw [List.take_length]
    refine gm [1, 2, 3, 4, 12] 3 (St.mk Rg.no [kCd (bitL 8 187), kCd (bitL 7 123), kLp (bitL 6 59), KI.block 0, kCd (bitL 3 7)] [(1, vR 0 0), (2, vR 1 0), (3, vR 2 0), (4, vI (↑p.slots.length : Int)), (12, vB (decide ((↑p.slots.length : Int) < (↑p.slots.length : Int))))] [LB.mk [cI p.lsn, cS Apslots p.slots.length cpslots] 115, LB.mk [cI 0, cS none 0 0] 115, LB.mk [cI p.lsn, cS B p.slots.length d] 115]) ?_
    refine spl 12 (decide ((↑p.slots.length : Int) < (↑p.slots.length : Int))) ?_ ?_
    · intro hb1
      replace hb1 := of_decide_eq_true hb1
      (exfalso; omega)
    · intro hb1
      replace hb1 := of_decide_eq_false hb1
      refine gm [2] 2 (St.mk Rg.no [kCd (bitL 4 15)] [(2, vR 1 0)] [LB.mk [cI p.lsn, cS Apslots p.slots.length cpslots] 115, LB.mk [cI p.lsn, cS B p.slots.length d] 115]) ?_
      refine rtk [SV.agg [cI p.lsn, cS B p.slots.length d]] ?_
      intro L w1 hs
      exact ⟨_, _, rfl, hs.out (As := [_])⟩

end Go.Proofs.Ytgleoebogikooaa.Dk
