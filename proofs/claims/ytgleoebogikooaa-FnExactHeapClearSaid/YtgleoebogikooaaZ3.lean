/- Walks of functions of the program: what each call returns and what it leaves in memory. Conditions: those that each theorem names. -/
import Derived.Test.YtgleoebogikooaaZ2
import Derived.Test.YtgleoebogikooaaY3
import Derived.Test.YtgleoebogikooaaSxC
namespace Go.Proofs.Ytgleoebogikooaa.Dk
set_option linter.unusedVariables false
set_option linter.unusedSimpArgs false
open Go.Proofs.Ytgleoebogikooaa.Sx Go.Proofs Go.RowKit
set_option maxRecDepth 100000
set_option maxHeartbeats 1000000
theorem l10copy_ok (h : He) (csh : List Value) (w : World) (hh : kHe.rd w.heap h csh) (hl : h.pages.length ≤ 1048576) (hb : byHe h) :
    Calls Try.prog 91 #[.agg csh.toArray] w fun e w' => ∃ (B : Option Addr) (d : Nat), e = .returned (.agg #[.slice B h.pages.length d]) ∧ Fresh w w' [rowA 115 kPg h.pages (.slice B h.pages.length d)] := by
  obtain ⟨Ahpages, chpages, rfl, hrhpages⟩ := kHe_inv hh
  refine enter (args := [.agg [.v (.slice Ahpages h.pages.length chpages)]]) Try.func91 (c := bodyOf Try.f91) rfl rfl (start_LOK _) (start_old w) ?_
  refine h_nil 115 kPg ?_
  refine gm [1, 2, 3, 4] 3 (St.mk Rg.no [kLp (bitL 6 59), KI.block 0, kCd (bitL 3 7)] [(1, vR 0 0), (2, vR 1 0), (3, vR 2 0), (4, vI 0)] [LB.mk [cS Ahpages h.pages.length chpages] 62, LB.mk [cS none 0 0] 62, LB.mk [cS none 0 0] 62]) ?_
  refine loop_at (ι := Nat × Option Addr × Nat) (fun s => [(4, .one (.v (.int .i64 s.1)))]) (fun s => [(2, ⟨[.v (.slice s.2.1 s.1 s.2.2)], 62⟩)]) (fun s => [rowA 115 kPg (h.pages.take s.1) (.slice s.2.1 s.1 s.2.2), oldA w]) (fun s => s.1 ≤ h.pages.length) (fun s => h.pages.length - s.1) (0, none, 0) rfl rfl rfl (Nat.zero_le _) ?_
  rintro ⟨i, B, d⟩ hi ih
  simp only at hi ih ⊢
  rcases Nat.lt_or_ge i h.pages.length with hlt | hge
  · obtain ⟨hp1, hp2⟩ := hb _ (List.getElem_mem hlt)
    have hp3 : ∀ s ∈ h.pages[i].slots, s.length ≤ 1048576 := fun s hs => (hp2 s hs).2
    refine gm [1, 2, 3, 4, 9] 3 (St.mk Rg.no [kCd (bitL 8 187), kCd (bitL 7 123), kLp (bitL 6 59), KI.block 0, kCd (bitL 3 7)] [(1, vR 0 0), (2, vR 1 0), (3, vR 2 0), (4, vI (↑i : Int)), (9, vB (decide ((↑i : Int) < (↑h.pages.length : Int))))] [LB.mk [cS Ahpages h.pages.length chpages] 62, LB.mk [cS none 0 0] 62, LB.mk [cS B i d] 62]) ?_
    refine spl 9 (decide ((↑i : Int) < (↑h.pages.length : Int))) ?_ ?_
    rotate_left
    · intro hb1
      replace hb1 := of_decide_eq_false hb1
      (exfalso; omega)
    intro hb1
    replace hb1 := of_decide_eq_true hb1
    refine gm [1, 2, 3, 4, 13, 15, 16] 3 (St.mk (Rg.dr (bitL 9 379) (bitL 12 31) 7 2) [KI.block 1, kCd (bitL 8 251), kLp (bitL 6 59), KI.block 0, kCd (bitL 3 7)] [(1, vR 0 0), (2, vR 1 0), (3, vR 2 0), (4, vI (↑i : Int)), (13, vS B i d), (15, vS Ahpages h.pages.length chpages), (16, vI (↑i : Int))] [LB.mk [cS Ahpages h.pages.length chpages] 62, LB.mk [cS none 0 0] 62, LB.mk [cS B i d] 62]) ?_
    refine index_at 5 (by kernel_rfl : atP _ _ _ 5 false = some (Op.indexAddr 60 (tmpO 15) (tmpO 16), 0, some 17, Rg.dr (bitL 9 379) (bitL 12 63) 6 2)) (ni := i) (sz := 2) (by kernel_rfl) rfl rfl rfl (by assumption) (fun L w1 hs => rd_some (i := i) (rdRow_ext (hs.old 1 rfl) hrhpages) (by assumption)) ?_
    intro a_1 ha_1
    cases ha_1
    refine gm [1, 2, 3, 4, 13, 17] 3 (St.mk (Rg.dr (bitL 9 379) (bitL 12 63) 6 2) [KI.block 1, kCd (bitL 8 251), kLp (bitL 6 59), KI.block 0, kCd (bitL 3 7)] [(1, vR 0 0), (2, vR 1 0), (3, vR 2 0), (4, vI (↑i : Int)), (13, vS B i d), (17, vP (a_1.add (i * 2)))] [LB.mk [cS (some a_1) h.pages.length chpages] 62, LB.mk [cS none 0 0] 62, LB.mk [cS B i d] 62]) ?_
    obtain ⟨Aslots_el1, cslots_el1, hr1_el1, hc_el1⟩ := Go.Proofs.Ytgleoebogikooaa.Dk.kPg_at (i := i) hrhpages (by assumption)
    refine load_agg 6 (by kernel_rfl : atP _ _ _ 6 true = some (Op.load 115 (tmpO 17), 115, some 18, Rg.dr (bitL 9 379) (bitL 12 127) 5 2)) (n := 2) (by kernel_rfl) rfl ?_
    intro L w1 hs
    refine ⟨[.v (Value.int IntKind.i64 h.pages[i].lsn), .v (Value.slice Aslots_el1 h.pages[i].slots.length cslots_el1)], rfl, cells_at0 (cellsH_ext (hs.old 1 rfl) hc_el1) rfl, ?_⟩
    clear hs
    refine gm [1, 2, 3, 4, 13, 18] 3 (St.mk (Rg.dr (bitL 9 379) (bitL 12 127) 5 2) [KI.block 1, kCd (bitL 8 251), kLp (bitL 6 59), KI.block 0, kCd (bitL 3 7)] [(1, vR 0 0), (2, vR 1 0), (3, vR 2 0), (4, vI (↑i : Int)), (13, vS B i d), (18, SV.agg [cI h.pages[i].lsn, cS Aslots_el1 h.pages[i].slots.length cslots_el1])] [LB.mk [cS (some a_1) h.pages.length chpages] 62, LB.mk [cS none 0 0] 62, LB.mk [cS B i d] 62]) ?_
    refine call_at true (by kernel_rfl : atC _ _ _ true = some (130, [SV.agg [cI h.pages[i].lsn, cS Aslots_el1 h.pages[i].slots.length cslots_el1]], some 19, Rg.dr (bitL 9 379) (bitL 12 255) 4 13)) (by kernel_rfl) (fun L w1 hs => (Go.Proofs.Ytgleoebogikooaa.Dk.l7copy_ok (h.pages[i]) ([Value.int IntKind.i64 h.pages[i].lsn, Value.slice Aslots_el1 h.pages[i].slots.length cslots_el1]) w1 (Go.Proofs.Ytgleoebogikooaa.Dk.kPg_mk (rdRow_ext (hs.old 1 rfl) hr1_el1)) (by assumption) (by assumption)).mono ?_)
    rintro e_ w2_ ⟨B_1, d_1, rfl, hf_⟩
    refine ⟨.agg [.v (Value.int IntKind.i64 h.pages[i].lsn), .v (Value.slice B_1 h.pages[i].slots.length d_1)], _, _, rfl, fun _ => hf_.1.block, hs.fresh hf_, ?_⟩
    clear hs hf_
    refine gm [1, 2, 3, 4, 13, 20] 4 (St.mk (Rg.dr (bitL 9 379) (bitL 12 511) 3 13) [KI.block 1, kCd (bitL 8 251), kLp (bitL 6 59), KI.block 0, kCd (bitL 3 7)] [(1, vR 0 0), (2, vR 1 0), (3, vR 2 0), (4, vI (↑i : Int)), (13, vS B i d), (20, SV.one (SC.sl 3 0 1 1))] [LB.mk [cS (some a_1) h.pages.length chpages] 62, LB.mk [cS none 0 0] 62, LB.mk [cS B i d] 62, LB.mk [cI h.pages[i].lsn, cS B_1 h.pages[i].slots.length d_1] 115]) ?_
    refine h_turn (A := [_]) (B := [elA kPg h.pages[i] [.int .i64 h.pages[i].lsn, .slice B_1 h.pages[i].slots.length d_1]]) (fun h S ho => one_el (kPg_own ho)) ?_
    refine h_swap ?_
    have e1 := take_len hi
    refine append_lit (d := kPg) (by_ := 32) (by kernel_rfl : atB _ _ _ false = some (Op.call (Call.mk (Callee.builtin Builtin.append) #[tmpO 13, tmpO 20] #[60, 60]), 60, some 21, Rg.dr (bitL 9 379) (bitL 12 1023) 2 0)) (by kernel_rfl) rfl rfl rfl rfl (by simp only [maxLen]; omega) (by omega) ?_
    intro B' d'
    rw [← List.take_succ_eq_append_getElem hlt, take_len hlt]
    refine gm [1, 2, 3, 4] 3 (St.mk Rg.no [kLp (bitL 6 59), KI.block 0, kCd (bitL 3 7)] [(1, vR 0 0), (2, vR 1 0), (3, vR 2 0), (4, vI (IntKind.i64.wrap ((↑i : Int) + 1)))] [LB.mk [cS (some a_1) h.pages.length chpages] 62, LB.mk [cS none 0 0] 62, LB.mk [cS B' i.succ d'] 62]) ?_
    rw [wrap_succ (by omega)]
    exact ih (i + 1, B', d') hlt (by simp only; omega)
  · obtain rfl : i = h.pages.length := by omega
    rw [List.take_length]
    refine gm [1, 2, 3, 4, 9] 3 (St.mk Rg.no [kCd (bitL 8 187), kCd (bitL 7 123), kLp (bitL 6 59), KI.block 0, kCd (bitL 3 7)] [(1, vR 0 0), (2, vR 1 0), (3, vR 2 0), (4, vI (↑h.pages.length : Int)), (9, vB (decide ((↑h.pages.length : Int) < (↑h.pages.length : Int))))] [LB.mk [cS Ahpages h.pages.length chpages] 62, LB.mk [cS none 0 0] 62, LB.mk [cS B h.pages.length d] 62]) ?_
    refine spl 9 (decide ((↑h.pages.length : Int) < (↑h.pages.length : Int))) ?_ ?_
    · intro hb1
      replace hb1 := of_decide_eq_true hb1
      (exfalso; omega)
    · intro hb1
      replace hb1 := of_decide_eq_false hb1
      refine gm [2] 2 (St.mk Rg.no [kCd (bitL 4 15)] [(2, vR 1 0)] [LB.mk [cS Ahpages h.pages.length chpages] 62, LB.mk [cS B h.pages.length d] 62]) ?_
      refine rtk [SV.agg [cS B h.pages.length d]] ?_
      intro L w1 hs
      exact ⟨_, _, rfl, hs.out (As := [_])⟩

theorem with_ok (h : He) (A0 : Option Addr) (c0 : Nat) (own : Pg) (Ao : Option Addr) (co : Nat) (page : Int) (w0 w : World) (S : Nat → Prop) (hA : sepL [rowA 40 (kRow 5 kU8) own.slots (.slice Ao own.slots.length co)] w.heap S) (hS : ∀ b, S b → b < w.heap.size) (hr : rdRow kPg w0.heap h.pages (.slice A0 h.pages.length c0)) (h0 : w0.heap.size ≤ w.heap.size) (hag : ∀ b, b < w0.heap.size → w.heap[b]? = w0.heap[b]?) (hS0 : ∀ b, b < w0.heap.size → ¬ S b) (hpg : 0 ≤ page ∧ page < (h.pages.length : Int)) (hl : h.pages.length ≤ 1048576) (hb : byHe h) :
    Calls Try.prog 94 #[.agg #[.slice A0 h.pages.length c0], .int .i64 page, .agg #[.int .i64 own.lsn, .slice Ao own.slots.length co]] w fun e w' => ∃ (B : Option Addr) (d : Nat), e = .returned (.agg #[.slice B h.pages.length d]) ∧ Mut w w' S [rowA 115 kPg (h.pages.set page.toNat own) (.slice B h.pages.length d)] := by
  refine enter (args := [.agg [.v (.slice A0 h.pages.length c0)], .one (.v (.int .i64 page)), .agg [.v (.int .i64 own.lsn), .v (.slice Ao own.slots.length co)]]) Try.func94 (c := bodyOf Try.f94) rfl rfl (start_LOK _) (start_mut hA hS) ?_
  refine h_bring 1 rfl ?_
  refine h_see hS0 h0 hag ?_
  refine h_nil 115 kPg ?_
  refine gm [1, 5, 6, 7, 11, 12, 13] 4 (St.mk Rg.no [kLp (bitL 6 59), KI.block 0, kCd (bitL 3 7)] [(1, vI page), (5, vR 1 0), (6, vR 2 0), (7, vR 3 0), (11, vS A0 h.pages.length c0), (12, vI (↑h.pages.length : Int)), (13, vI 0)] [LB.mk [cS A0 h.pages.length c0] 62, LB.mk [cI own.lsn, cS Ao own.slots.length co] 115, LB.mk [cS none 0 0] 62, LB.mk [cS none 0 0] 62]) ?_
  refine loop_at (ι := Nat × Option Addr × Nat) (fun s => [(13, .one (.v (.int .i64 s.1)))]) (fun s => [(3, ⟨[.v (.slice s.2.1 s.1 s.2.2)], 62⟩)]) (fun s => [rowA 115 kPg (h.pages.take s.1) (.slice s.2.1 s.1 s.2.2), oldA w0, oldX w (fun b => S b ∨ b < w0.heap.size), rowA 40 (kRow 5 kU8) own.slots (.slice Ao own.slots.length co)]) (fun s => s.1 ≤ h.pages.length) (fun s => h.pages.length - s.1) (0, none, 0) rfl rfl rfl (Nat.zero_le _) ?_
  rintro ⟨i, B, d⟩ hi ih
  simp only at hi ih ⊢
  rcases Nat.lt_or_ge i h.pages.length with hlt | hge
  · obtain ⟨hp1, hp2⟩ := hb _ (List.getElem_mem hlt)
    have hp3 : ∀ s ∈ h.pages[i].slots, s.length ≤ 1048576 := fun s hs => (hp2 s hs).2
    refine gm [1, 5, 6, 7, 11, 12, 13, 14] 4 (St.mk Rg.no [kCd (bitL 8 123), kCd (bitL 8 251), kLp (bitL 6 59), KI.block 0, kCd (bitL 3 7)] [(1, vI page), (5, vR 1 0), (6, vR 2 0), (7, vR 3 0), (11, vS A0 h.pages.length c0), (12, vI (↑h.pages.length : Int)), (13, vI (↑i : Int)), (14, vB (decide ((↑i : Int) < (↑h.pages.length : Int))))] [LB.mk [cS A0 h.pages.length c0] 62, LB.mk [cI own.lsn, cS Ao own.slots.length co] 115, LB.mk [cS none 0 0] 62, LB.mk [cS B i d] 62]) ?_
    refine spl 14 (decide ((↑i : Int) < (↑h.pages.length : Int))) ?_ ?_
    rotate_left
    · intro hb1
      replace hb1 := of_decide_eq_false hb1
      (exfalso; omega)
    intro hb1
    replace hb1 := of_decide_eq_true hb1
    refine gm [1, 5, 6, 7, 11, 12, 13] 4 (St.mk (Rg.sq (bitL 11 763) 0) [kCd (bitL 11 1787), KI.block 1, kCd (bitL 9 507), kLp (bitL 6 59), KI.block 0, kCd (bitL 3 7)] [(1, vI page), (5, vR 1 0), (6, vR 2 0), (7, vR 3 0), (11, vS A0 h.pages.length c0), (12, vI (↑h.pages.length : Int)), (13, vI (↑i : Int))] [LB.mk [cS A0 h.pages.length c0] 62, LB.mk [cI own.lsn, cS Ao own.slots.length co] 115, LB.mk [cS none 0 0] 62, LB.mk [cS B i d] 62]) ?_
    refine index_at 0 (by kernel_rfl : atP _ _ _ 0 false = some (Op.indexAddr 60 (tmpO 11) (tmpO 13), 0, some 15, Rg.sq (bitL 11 763) 1)) (ni := i) (sz := 2) (by kernel_rfl) rfl rfl rfl (by assumption) (fun L w1 hs => rd_some (i := i) (rdRow_ext (hs.old 1 rfl) hr) (by assumption)) ?_
    intro a_1 ha_1
    cases ha_1
    refine gm [1, 5, 6, 7, 11, 12, 13, 15] 4 (St.mk (Rg.sq (bitL 11 763) 1) [kCd (bitL 11 1787), KI.block 1, kCd (bitL 9 507), kLp (bitL 6 59), KI.block 0, kCd (bitL 3 7)] [(1, vI page), (5, vR 1 0), (6, vR 2 0), (7, vR 3 0), (11, vS (some a_1) h.pages.length c0), (12, vI (↑h.pages.length : Int)), (13, vI (↑i : Int)), (15, vP (a_1.add (i * 2)))] [LB.mk [cS (some a_1) h.pages.length c0] 62, LB.mk [cI own.lsn, cS Ao own.slots.length co] 115, LB.mk [cS none 0 0] 62, LB.mk [cS B i d] 62]) ?_
    obtain ⟨Aslots_el1, cslots_el1, hr1_el1, hc_el1⟩ := Go.Proofs.Ytgleoebogikooaa.Dk.kPg_at (i := i) hr (by assumption)
    refine load_agg 1 (by kernel_rfl : atP _ _ _ 1 true = some (Op.load 115 (tmpO 15), 115, some 16, Rg.sq (bitL 11 763) 2)) (n := 2) (by kernel_rfl) rfl ?_
    intro L w1 hs
    refine ⟨[.v (Value.int IntKind.i64 h.pages[i].lsn), .v (Value.slice Aslots_el1 h.pages[i].slots.length cslots_el1)], rfl, cells_at0 (cellsH_ext (hs.old 1 rfl) hc_el1) rfl, ?_⟩
    clear hs
    refine gm [1, 5, 6, 7, 11, 12, 13, 18, 20, 21] 4 (St.mk (Rg.dr (bitL 11 1787) (bitL 11 31) 6 2) [KI.block 1, kCd (bitL 9 507), kLp (bitL 6 59), KI.block 0, kCd (bitL 3 7)] [(1, vI page), (5, vR 1 0), (6, vR 2 0), (7, vR 3 0), (11, vS (some a_1) h.pages.length c0), (12, vI (↑h.pages.length : Int)), (13, vI (↑i : Int)), (18, vS B i d), (20, vI h.pages[i].lsn), (21, SV.agg [cI h.pages[i].lsn, cS Aslots_el1 h.pages[i].slots.length cslots_el1])] [LB.mk [cS (some a_1) h.pages.length c0] 62, LB.mk [cI own.lsn, cS Ao own.slots.length co] 115, LB.mk [cS none 0 0] 62, LB.mk [cS B i d] 62]) ?_
    refine call_at true (by kernel_rfl : atC _ _ _ true = some (132, [SV.agg [cI h.pages[i].lsn, cS Aslots_el1 h.pages[i].slots.length cslots_el1]], some 22, Rg.dr (bitL 11 1787) (bitL 11 63) 5 14)) (by kernel_rfl) (fun L w1 hs => (Go.Proofs.Ytgleoebogikooaa.Dk.iSlots_ok (h.pages[i]) ([Value.int IntKind.i64 h.pages[i].lsn, Value.slice Aslots_el1 h.pages[i].slots.length cslots_el1]) w1 (Go.Proofs.Ytgleoebogikooaa.Dk.kPg_mk (rdRow_ext (hs.old 1 rfl) hr1_el1)) (by assumption) (by assumption)).mono ?_)
    rintro e_ w2_ ⟨B_1, d_1, rfl, hf_⟩
    refine ⟨.one (.v (Value.slice B_1 h.pages[i].slots.length d_1)), _, _, rfl, fun _ => hf_.1.block, hs.fresh hf_, ?_⟩
    clear hs hf_
    refine gm [1, 5, 6, 7, 11, 12, 13, 18, 24] 5 (St.mk (Rg.dr (bitL 11 1787) (bitL 11 255) 3 14) [KI.block 1, kCd (bitL 9 507), kLp (bitL 6 59), KI.block 0, kCd (bitL 3 7)] [(1, vI page), (5, vR 1 0), (6, vR 2 0), (7, vR 3 0), (11, vS (some a_1) h.pages.length c0), (12, vI (↑h.pages.length : Int)), (13, vI (↑i : Int)), (18, vS B i d), (24, SV.one (SC.sl 4 0 1 1))] [LB.mk [cS (some a_1) h.pages.length c0] 62, LB.mk [cI own.lsn, cS Ao own.slots.length co] 115, LB.mk [cS none 0 0] 62, LB.mk [cS B i d] 62, LB.mk [cI h.pages[i].lsn, cS B_1 h.pages[i].slots.length d_1] 115]) ?_
    refine h_turn (A := [_]) (B := [elA kPg h.pages[i] [.int .i64 h.pages[i].lsn, .slice B_1 h.pages[i].slots.length d_1]]) (fun h S ho => one_el (kPg_own ho)) ?_
    refine h_swap ?_
    have e1 := take_len hi
    refine append_lit (d := kPg) (by_ := 32) (by kernel_rfl : atB _ _ _ false = some (Op.call (Call.mk (Callee.builtin Builtin.append) #[tmpO 18, tmpO 24] #[60, 60]), 60, some 25, Rg.dr (bitL 11 1787) (bitL 11 511) 2 0)) (by kernel_rfl) rfl rfl rfl rfl (by simp only [maxLen]; omega) (by omega) ?_
    intro B' d'
    rw [← List.take_succ_eq_append_getElem hlt, take_len hlt]
    refine gm [1, 5, 6, 7, 11, 12, 13] 4 (St.mk Rg.no [kLp (bitL 6 59), KI.block 0, kCd (bitL 3 7)] [(1, vI page), (5, vR 1 0), (6, vR 2 0), (7, vR 3 0), (11, vS (some a_1) h.pages.length c0), (12, vI (↑h.pages.length : Int)), (13, vI (IntKind.i64.wrap ((↑i : Int) + 1)))] [LB.mk [cS (some a_1) h.pages.length c0] 62, LB.mk [cI own.lsn, cS Ao own.slots.length co] 115, LB.mk [cS none 0 0] 62, LB.mk [cS B' i.succ d'] 62]) ?_
    rw [wrap_succ (by omega)]
    exact ih (i + 1, B', d') hlt (by simp only; omega)
  obtain rfl : i = h.pages.length := by omega
  rw [List.take_length]
  have hlt : page.toNat < h.pages.length := by omega
  refine gm [1, 5, 6, 7, 11, 12, 13, 14] 4 (St.mk Rg.no [kCd (bitL 8 123), kCd (bitL 8 251), kLp (bitL 6 59), KI.block 0, kCd (bitL 3 7)] [(1, vI page), (5, vR 1 0), (6, vR 2 0), (7, vR 3 0), (11, vS A0 h.pages.length c0), (12, vI (↑h.pages.length : Int)), (13, vI (↑h.pages.length : Int)), (14, vB (decide ((↑h.pages.length : Int) < (↑h.pages.length : Int))))] [LB.mk [cS A0 h.pages.length c0] 62, LB.mk [cI own.lsn, cS Ao own.slots.length co] 115, LB.mk [cS none 0 0] 62, LB.mk [cS B h.pages.length d] 62]) ?_
  refine spl 14 (decide ((↑h.pages.length : Int) < (↑h.pages.length : Int))) ?_ ?_
  · intro hb1
    replace hb1 := of_decide_eq_true hb1
    (exfalso; omega)
  intro hb1
  replace hb1 := of_decide_eq_false hb1
  refine gm [1, 5, 6, 7, 32] 4 (St.mk Rg.no [kCd (bitL 5 23), kCd (bitL 4 15)] [(1, vI page), (5, vR 1 0), (6, vR 2 0), (7, vR 3 0), (32, vB (page == (↑h.pages.length : Int)))] [LB.mk [cS A0 h.pages.length c0] 62, LB.mk [cI own.lsn, cS Ao own.slots.length co] 115, LB.mk [cS none 0 0] 62, LB.mk [cS B h.pages.length d] 62]) ?_
  refine spl 32 (page == (↑h.pages.length : Int)) ?_ ?_
  · intro hb2
    replace hb2 := beq_iff_eq.1 hb2
    (exfalso; omega)
  intro hb2
  replace hb2 := beq_eq_false_iff_ne.1 hb2
  refine gm [6, 7, 40, 41, 42] 4 (St.mk (Rg.sq (bitL 5 15) 4) [kCd (bitL 5 31)] [(6, vR 2 0), (7, vR 3 0), (40, vS B h.pages.length d), (41, vI page), (42, SV.agg [cI own.lsn, cS Ao own.slots.length co])] [LB.mk [cS A0 h.pages.length c0] 62, LB.mk [cI own.lsn, cS Ao own.slots.length co] 115, LB.mk [cS none 0 0] 62, LB.mk [cS B h.pages.length d] 62]) ?_
  refine index_at 4 (by kernel_rfl : atP _ _ _ 4 false = some (Op.indexAddr 60 (tmpO 40) (tmpO 41), 0, some 43, Rg.sq (bitL 5 15) 5)) (ni := page.toNat) (sz := 2) (by kernel_rfl) rfl rfl (by omega) (by assumption) (fun L w1 hs => rd_some (i := page.toNat) (hs.rd 0 rfl) (by assumption)) ?_
  intro a_1 ha_1
  cases ha_1
  refine gm [6, 7, 42, 43] 4 (St.mk (Rg.sq (bitL 5 15) 5) [kCd (bitL 5 31)] [(6, vR 2 0), (7, vR 3 0), (42, SV.agg [cI own.lsn, cS Ao own.slots.length co]), (43, vP (a_1.add (page.toNat * 2)))] [LB.mk [cS A0 h.pages.length c0] 62, LB.mk [cI own.lsn, cS Ao own.slots.length co] 115, LB.mk [cS none 0 0] 62, LB.mk [cS (some a_1) h.pages.length d] 62]) ?_
  refine h_own_g (by omega) (fun g hA => ?_)
  cases hA
  refine h_bring 3 rfl ?_
  refine h_bring 1 rfl ?_
  refine store_el (A := [_]) (d := kPg) (i := page.toNat) (y := own) (by kernel_rfl : atB _ _ _ false = some (Op.store 115 (tmpO 43) (tmpO 42), 0, none, Rg.sq (bitL 5 15) 6)) (by kernel_rfl) rfl rfl rfl rfl rfl hlt (fun h S ho => kPg_own ho) ?_
  refine h_bring 2 rfl ?_
  refine h_bring 2 rfl ?_
  refine h_turn (A := [_, _]) (B := [oldX w S]) (fun h S ho => see_join hag ho) ?_
  refine h_swap ?_
  refine gm [6] 3 (St.mk Rg.no [kCd (bitL 6 63)] [(6, vR 2 0)] [LB.mk [cS A0 h.pages.length c0] 62, LB.mk [cI own.lsn, cS Ao own.slots.length co] 115, LB.mk [cS (some (Addr.mk g 0 none)) h.pages.length d] 62]) ?_
  refine rtk [SV.agg [cS (some (Addr.mk g 0 none)) h.pages.length d]] ?_
  intro L w1 hs
  exact ⟨_, _, rfl, hs.outm (As := [_])⟩

end Go.Proofs.Ytgleoebogikooaa.Dk
