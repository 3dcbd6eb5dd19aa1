/- Walks of functions of the program: what each call returns and what it leaves in memory. Conditions: those that each theorem names. -/
import Derived.Test.YtgleoebogikooaaGreatT1
namespace Go.Proofs.YtgleoebogikooaaGreat.Dk
set_option linter.unusedVariables false
set_option linter.unusedSimpArgs false
open Go.Proofs.YtgleoebogikooaaGreat.Sx Go.Proofs Go.RowKit
set_option maxRecDepth 100000
set_option maxHeartbeats 1000000
theorem iTupReadX_ok (b : List Int) (vb : Value) (w : World) (x : Tu) (ok : Bool) (hb : rdRow kU8 w.heap b vb) (hby : byOk b) (hl : b.length ≤ 1048576) (hx : (tupR b).getD zTu0 = x) (ho : (tupR b).isSome = ok) :
  Calls Tryz.prog 90 #[vb] w fun e w' => ∃ (bokey_f : Nat) (Aokey_t : Option Addr) (cokey_t : Nat) (bovalue_f : Nat) (Aovalue_t : Option Addr) (covalue_t : Nat), e = .returned (.tuple #[.agg #[.int .i64 x.xmin, .int .i64 x.xmax, .int .i64 x.key.kind, .int .i64 x.key.n, .float .f64 bokey_f, .slice Aokey_t x.key.t.length cokey_t, .int .i64 x.value.kind, .int .i64 x.value.n, .float .f64 bovalue_f, .slice Aovalue_t x.value.t.length covalue_t], .bool ok]) ∧ Fresh w w' [rowA 5 kU8 x.value.t (.slice Aovalue_t x.value.t.length covalue_t), rowA 5 kU8 x.key.t (.slice Aokey_t x.key.t.length cokey_t)] ∧ bokey_f < 18446744073709551616 ∧ canonF bokey_f = x.key.f ∧ bovalue_f < 18446744073709551616 ∧ canonF bovalue_f = x.value.f := by
 subst hx ho
 exact iTupRead_ok b vb w hb hby hl
theorem sTupReadX_ok (b : List Int) (vb : Value) (w : World) (x : Tu) (ok : Bool) (hb : rdRow kU8 w.heap b vb) (hby : byOk b) (hl : b.length ≤ 1048576) (hx : (tupR b).getD zTu0 = x) (ho : (tupR b).isSome = ok) :
  Calls Tryz.prog 28 #[vb] w fun e w' => ∃ (bokey_f : Nat) (Aokey_t : Option Addr) (cokey_t : Nat) (bovalue_f : Nat) (Aovalue_t : Option Addr) (covalue_t : Nat), e = .returned (.tuple #[.agg #[.int .i64 x.xmin, .int .i64 x.xmax, .int .i64 x.key.kind, .int .i64 x.key.n, .float .f64 bokey_f, .slice Aokey_t x.key.t.length cokey_t, .int .i64 x.value.kind, .int .i64 x.value.n, .float .f64 bovalue_f, .slice Aovalue_t x.value.t.length covalue_t], .bool ok]) ∧ Fresh w w' [rowA 5 kU8 x.value.t (.slice Aovalue_t x.value.t.length covalue_t), rowA 5 kU8 x.key.t (.slice Aokey_t x.key.t.length cokey_t)] ∧ bokey_f < 18446744073709551616 ∧ canonF bokey_f = x.key.f ∧ bovalue_f < 18446744073709551616 ∧ canonF bovalue_f = x.value.f := by
 subst hx ho
 exact sTupRead_ok b vb w hb hby hl
theorem iRows_ok (h : He) (csh : List Value) (w : World) (hh : kHe.rd w.heap h csh) (hz : zHe h ≤ 1048576) (hb : byHe h) :
  Calls Tryz.prog 58 #[.agg csh.toArray] w fun e w' => ∃ (B : Option Addr) (d : Nat), e = .returned (.slice B (rowsH h.pages 0).length d) ∧ Fresh w w' [rowA 64 kRw (rowsH h.pages 0) (.slice B (rowsH h.pages 0).length d)] := by
 obtain ⟨Ahpages, chpages, rfl, hrhpages⟩ := kHe_inv hh
 refine enter (args := [.agg [.v (.slice Ahpages h.pages.length chpages)]]) Tryz.func58 (c := bodyOf Tryz.f58) rfl rfl (start_LOK _) (start_old w) ?_
 have rows_on : True := trivial
 have hzh : zHe h = h.pages.length + (h.pages.map zPg).sum := rfl
 have hl : h.pages.length ≤ 1048576 := by omega
 refine h_nil 64 kRw ?_
 refine gn 0 Rg.no [kLp (bitL 6 59), KI.block 0, kCd (bitL 3 7)] [(3, vS none 0 0), (11, vS Ahpages h.pages.length chpages), (12, vI (↑h.pages.length : Int)), (13, vI 0)] [] ?_
 refine loop_at (ι := Nat × Option Addr × Nat) (fun s => [(3, .one (.v (.slice s.2.1 (rowsH (h.pages.take s.1) 0).length s.2.2))), (13, .one (.v (.int .i64 s.1)))]) (fun _ => []) (fun s => [rowA 64 kRw (rowsH (h.pages.take s.1) 0) (.slice s.2.1 (rowsH (h.pages.take s.1) 0).length s.2.2), oldA w]) (fun s => s.1 ≤ h.pages.length) (fun s => h.pages.length - s.1) (0, none, 0) rfl rfl rfl (Nat.zero_le _) ?_
 rintro ⟨i, B, d⟩ hi ih
 simp only at hi ih ⊢
 rcases Nat.lt_or_ge i h.pages.length with hlt | hge
 ·obtain ⟨hp1, hp2⟩ := hb _ (List.getElem_mem hlt)
  refine gn 0 Rg.no [kCd (bitL 8 123), kCd (bitL 8 251), kLp (bitL 6 59), KI.block 0, kCd (bitL 3 7)] [(3, vS B (rowsH (List.take i h.pages) 0).length d), (11, vS Ahpages h.pages.length chpages), (12, vI (↑h.pages.length : Int)), (13, vI (↑i : Int)), (14, vB (decide ((↑i : Int) < (↑h.pages.length : Int))))] [] ?_
  refine spl 14 (decide ((↑i : Int) < (↑h.pages.length : Int))) ?_ ?_
  rotate_left
  ·intro hb1
   replace hb1 := of_decide_eq_false hb1
   (exfalso; omega)
  intro hb1
  replace hb1 := of_decide_eq_true hb1
  refine gn 0 (Rg.sq (bitL 11 763) 1) [kCd (bitL 11 1787), KI.block 1, kCd (bitL 9 507), kLp (bitL 6 59), KI.block 0, kCd (bitL 3 7)] [(3, vS B (rowsH (List.take i h.pages) 0).length d), (11, vS Ahpages h.pages.length chpages), (12, vI (↑h.pages.length : Int)), (13, vI (↑i : Int)), (15, vI (↑i : Int))] [] ?_
  refine index_at 1 (by kernel_rfl : atP _ _ _ 1 false = some (Op.indexAddr 28 (tmpO 11) (tmpO 13), 0, some 16, Rg.sq (bitL 11 763) 2)) (ni := i) (sz := 2) (by kernel_rfl) rfl rfl rfl ‹_› (fun L w1 hs => rd_some (i := i) (rdRow_ext (hs.old 1 rfl) hrhpages) ‹_›) ?_
  intro a_1 ha_1
  cases ha_1
  refine gn 0 (Rg.sq (bitL 11 763) 2) [kCd (bitL 11 1787), KI.block 1, kCd (bitL 9 507), kLp (bitL 6 59), KI.block 0, kCd (bitL 3 7)] [(3, vS B (rowsH (List.take i h.pages) 0).length d), (11, vS (some a_1) h.pages.length chpages), (12, vI (↑h.pages.length : Int)), (13, vI (↑i : Int)), (15, vI (↑i : Int)), (16, vP (a_1.add (i * 2)))] [] ?_
  obtain ⟨Aslots_el1, cslots_el1, hr1_el1, hc_el1⟩ := kPg_at (i := i) hrhpages ‹_›
  refine load_agg 2 (by kernel_rfl : atP _ _ _ 2 true = some (Op.load 58 (tmpO 16), 58, some 17, Rg.sq (bitL 11 763) 3)) (n := 2) (by kernel_rfl) rfl ?_
  intro L w1 hs
  refine ⟨[.v (Value.int IntKind.i64 h.pages[i].lsn), .v (Value.slice Aslots_el1 h.pages[i].slots.length cslots_el1)], rfl, cells_at0 (cellsH_ext (hs.old 1 rfl) hc_el1) rfl, ?_⟩
  clear hs
  refine gn 0 Rg.no [kLp (bitL 14 16123), KI.block 2, KI.block 1, kCd (bitL 9 507), kLp (bitL 6 59), KI.block 0, kCd (bitL 3 7)] [(3, vS B (rowsH (List.take i h.pages) 0).length d), (4, vI (↑i : Int)), (11, vS (some a_1) h.pages.length chpages), (12, vI (↑h.pages.length : Int)), (13, vI (↑i : Int)), (19, vS Aslots_el1 h.pages[i].slots.length cslots_el1), (20, vI (↑h.pages[i].slots.length : Int)), (21, vI 0)] [] ?_
  rw [rowsK_0 h.pages h.pages[i].slots i]
  refine loop_at (ι := Nat × Option Addr × Nat) (fun s => [(3, .one (.v (.slice s.2.1 (rowsK h.pages h.pages[i].slots i s.1).length s.2.2))), (21, .one (.v (.int .i64 s.1)))]) (fun _ => []) (fun s => [rowA 64 kRw (rowsK h.pages h.pages[i].slots i s.1) (.slice s.2.1 (rowsK h.pages h.pages[i].slots i s.1).length s.2.2), oldA w]) (fun s => s.1 ≤ h.pages[i].slots.length) (fun s => h.pages[i].slots.length - s.1) (0, B, d) rfl rfl rfl (Nat.zero_le _) ?_
  rintro ⟨k, Bk, dk⟩ hk ihk
  simp only at hk ihk ⊢
  rcases Nat.lt_or_ge k h.pages[i].slots.length with hkl | hkg
  ·obtain ⟨hby1, hln1⟩ := hp2 _ (List.getElem_mem hkl)
   have hrl := rowsK_len hlt k
   obtain ⟨x, hx⟩ : ∃ x, (tupR h.pages[i].slots[k]).getD zTu0 = x := ⟨_, rfl⟩
   obtain ⟨ok, hok⟩ : ∃ ok, (tupR h.pages[i].slots[k]).isSome = ok := ⟨_, rfl⟩
   cases ok
   ·have hst := rowsK_no (l := h.pages) (i := i) hkl hok
    refine gn 0 Rg.no [kCd (bitL 16 32507), kCd (bitL 16 65275), kLp (bitL 14 16123), KI.block 2, KI.block 1, kCd (bitL 9 507), kLp (bitL 6 59), KI.block 0, kCd (bitL 3 7)] [(3, vS Bk (rowsK h.pages h.pages[i].slots i k).length dk), (4, vI (↑i : Int)), (11, vS (some a_1) h.pages.length chpages), (12, vI (↑h.pages.length : Int)), (13, vI (↑i : Int)), (19, vS Aslots_el1 h.pages[i].slots.length cslots_el1), (20, vI (↑h.pages[i].slots.length : Int)), (21, vI (↑k : Int)), (22, vB (decide ((↑k : Int) < (↑h.pages[i].slots.length : Int))))] [] ?_
    refine spl 22 (decide ((↑k : Int) < (↑h.pages[i].slots.length : Int))) ?_ ?_
    ·intro hb2
     replace hb2 := of_decide_eq_true hb2
     refine gn 0 (Rg.sq (bitL 19 196347) 1) [kCd (bitL 19 458491), KI.block 3, kCd (bitL 17 130811), kLp (bitL 14 16123), KI.block 2, KI.block 1, kCd (bitL 9 507), kLp (bitL 6 59), KI.block 0, kCd (bitL 3 7)] [(3, vS Bk (rowsK h.pages h.pages[i].slots i k).length dk), (4, vI (↑i : Int)), (11, vS (some a_1) h.pages.length chpages), (12, vI (↑h.pages.length : Int)), (13, vI (↑i : Int)), (19, vS Aslots_el1 h.pages[i].slots.length cslots_el1), (20, vI (↑h.pages[i].slots.length : Int)), (21, vI (↑k : Int)), (23, vI (↑k : Int))] [] ?_
     refine index_at 1 (by kernel_rfl : atP _ _ _ 1 false = some (Op.indexAddr 56 (tmpO 19) (tmpO 21), 0, some 24, Rg.sq (bitL 19 196347) 2)) (ni := k) (sz := 1) (by kernel_rfl) rfl rfl rfl ‹_› (fun L w1 hs => rd_some (i := k) (rdRow_ext (hs.old 1 rfl) hr1_el1) ‹_›) ?_
     intro a_2 ha_2
     cases ha_2
     refine gn 0 (Rg.sq (bitL 19 196347) 2) [kCd (bitL 19 458491), KI.block 3, kCd (bitL 17 130811), kLp (bitL 14 16123), KI.block 2, KI.block 1, kCd (bitL 9 507), kLp (bitL 6 59), KI.block 0, kCd (bitL 3 7)] [(3, vS Bk (rowsK h.pages h.pages[i].slots i k).length dk), (4, vI (↑i : Int)), (11, vS (some a_1) h.pages.length chpages), (12, vI (↑h.pages.length : Int)), (13, vI (↑i : Int)), (19, vS (some a_2) h.pages[i].slots.length cslots_el1), (20, vI (↑h.pages[i].slots.length : Int)), (21, vI (↑k : Int)), (23, vI (↑k : Int)), (24, vP (a_2.add (k * 1)))] [] ?_
     obtain ⟨Ai_r1, ci_r1, hce_r1, hrw_r1⟩ := rd_row (i := k) hr1_el1 ‹_›
     refine load_one 2 (by kernel_rfl : atP _ _ _ 2 true = some (Op.load 44 (tmpO 24), 44, some 25, Rg.sq (bitL 19 196347) 3)) (n := 1) (by kernel_rfl) rfl ?_
     intro L w1 hs
     refine ⟨.v (.slice Ai_r1 ((h.pages[i].slots)[k]'‹_›).length ci_r1), cellH_ext (hs.old 1 rfl) hce_r1, ?_⟩
     clear hs
     refine gn 0 (Rg.sq (bitL 20 458491) 1) [kCd (bitL 20 982779), KI.block 3, kCd (bitL 17 130811), kLp (bitL 14 16123), KI.block 2, KI.block 1, kCd (bitL 9 507), kLp (bitL 6 59), KI.block 0, kCd (bitL 3 7)] [(3, vS Bk (rowsK h.pages h.pages[i].slots i k).length dk), (4, vI (↑i : Int)), (6, vI (↑k : Int)), (11, vS (some a_1) h.pages.length chpages), (12, vI (↑h.pages.length : Int)), (13, vI (↑i : Int)), (19, vS (some a_2) h.pages[i].slots.length cslots_el1), (20, vI (↑h.pages[i].slots.length : Int)), (21, vI (↑k : Int)), (27, vS Ai_r1 h.pages[i].slots[k].length ci_r1)] [] ?_
     refine cak 90 [vS Ai_r1 h.pages[i].slots[k].length ci_r1] (some 28) (Rg.sq (bitL 20 458491) 2) (fun L w1 hs => (iTupReadX_ok (h.pages[i].slots[k]) (Value.slice Ai_r1 h.pages[i].slots[k].length ci_r1) w1 (x) (false) (rdRow_ext (hs.old 1 rfl) hrw_r1) ‹_› ‹_› hx hok).mono ?_)
     rintro e_ w2_ ⟨bokey_1, Aokey_1, cokey_1, bovalue_1, Aovalue_1, covalue_1, rfl, hf_, hq1, hq2, hq3, hq4⟩
     refine ⟨.one (.v (Value.tuple #[Value.agg #[Value.int IntKind.i64 x.xmin, Value.int IntKind.i64 x.xmax, Value.int IntKind.i64 x.key.kind, Value.int IntKind.i64 x.key.n, Value.float FloatKind.f64 bokey_1, Value.slice Aokey_1 x.key.t.length cokey_1, Value.int IntKind.i64 x.value.kind, Value.int IntKind.i64 x.value.n, Value.float FloatKind.f64 bovalue_1, Value.slice Aovalue_1 x.value.t.length covalue_1], Value.bool false])), _, _, rfl, fun _ => hf_.1.block, hs.fresh hf_, ?_⟩
     clear hs hf_
     refine gn 1 Rg.no [kCd (bitL 21 2031355), KI.block 3, kCd (bitL 17 130811), kLp (bitL 14 16123), KI.block 2, KI.block 1, kCd (bitL 9 507), kLp (bitL 6 59), KI.block 0, kCd (bitL 3 7)] [(3, vS Bk (rowsK h.pages h.pages[i].slots i k).length dk), (4, vI (↑i : Int)), (6, vI (↑k : Int)), (8, vR 0 0), (11, vS (some a_1) h.pages.length chpages), (12, vI (↑h.pages.length : Int)), (13, vI (↑i : Int)), (19, vS (some a_2) h.pages[i].slots.length cslots_el1), (20, vI (↑h.pages[i].slots.length : Int)), (21, vI (↑k : Int)), (31, vB false)] [LB.mk [cI x.xmin, cI x.xmax, cI x.key.kind, cI x.key.n, cF bokey_1, cS Aokey_1 x.key.t.length cokey_1, cI x.value.kind, cI x.value.n, cF bovalue_1, cS Aovalue_1 x.value.t.length covalue_1] 60] ?_
     refine ltk 31 false ?_
     refine gn 0 Rg.no [kLp (bitL 14 16123), KI.block 2, KI.block 1, kCd (bitL 9 507), kLp (bitL 6 59), KI.block 0, kCd (bitL 3 7)] [(3, vS Bk (rowsK h.pages h.pages[i].slots i k).length dk), (4, vI (↑i : Int)), (11, vS (some a_1) h.pages.length chpages), (12, vI (↑h.pages.length : Int)), (13, vI (↑i : Int)), (19, vS (some a_2) h.pages[i].slots.length cslots_el1), (20, vI (↑h.pages[i].slots.length : Int)), (21, vI (IntKind.i64.wrap ((↑k : Int) + 1)))] [] ?_
     refine h_drop ?_; refine h_drop ?_; rw [wrap_succ (by omega), ← hst]; exact ihk (k + 1, Bk, dk) hkl (by simp only; omega)
    ·intro hb2
     replace hb2 := of_decide_eq_false hb2
     (exfalso; omega)
   have hst := rowsK_yes (l := h.pages) (i := i) hkl hx hok
   have hsl : (rowsK h.pages h.pages[i].slots i k).length + 1 = (rowsK h.pages h.pages[i].slots i (k + 1)).length := by rw [hst, List.length_append]; rfl
   refine gn 0 Rg.no [kCd (bitL 16 32507), kCd (bitL 16 65275), kLp (bitL 14 16123), KI.block 2, KI.block 1, kCd (bitL 9 507), kLp (bitL 6 59), KI.block 0, kCd (bitL 3 7)] [(3, vS Bk (rowsK h.pages h.pages[i].slots i k).length dk), (4, vI (↑i : Int)), (11, vS (some a_1) h.pages.length chpages), (12, vI (↑h.pages.length : Int)), (13, vI (↑i : Int)), (19, vS Aslots_el1 h.pages[i].slots.length cslots_el1), (20, vI (↑h.pages[i].slots.length : Int)), (21, vI (↑k : Int)), (22, vB (decide ((↑k : Int) < (↑h.pages[i].slots.length : Int))))] [] ?_
   refine spl 22 (decide ((↑k : Int) < (↑h.pages[i].slots.length : Int))) ?_ ?_
   rotate_left
   ·intro hb2
    replace hb2 := of_decide_eq_false hb2
    (exfalso; omega)
   intro hb2
   replace hb2 := of_decide_eq_true hb2
   refine gn 0 (Rg.sq (bitL 19 196347) 1) [kCd (bitL 19 458491), KI.block 3, kCd (bitL 17 130811), kLp (bitL 14 16123), KI.block 2, KI.block 1, kCd (bitL 9 507), kLp (bitL 6 59), KI.block 0, kCd (bitL 3 7)] [(3, vS Bk (rowsK h.pages h.pages[i].slots i k).length dk), (4, vI (↑i : Int)), (11, vS (some a_1) h.pages.length chpages), (12, vI (↑h.pages.length : Int)), (13, vI (↑i : Int)), (19, vS Aslots_el1 h.pages[i].slots.length cslots_el1), (20, vI (↑h.pages[i].slots.length : Int)), (21, vI (↑k : Int)), (23, vI (↑k : Int))] [] ?_
   refine index_at 1 (by kernel_rfl : atP _ _ _ 1 false = some (Op.indexAddr 56 (tmpO 19) (tmpO 21), 0, some 24, Rg.sq (bitL 19 196347) 2)) (ni := k) (sz := 1) (by kernel_rfl) rfl rfl rfl ‹_› (fun L w1 hs => rd_some (i := k) (rdRow_ext (hs.old 1 rfl) hr1_el1) ‹_›) ?_
   intro a_2 ha_2
   cases ha_2
   refine gn 0 (Rg.sq (bitL 19 196347) 2) [kCd (bitL 19 458491), KI.block 3, kCd (bitL 17 130811), kLp (bitL 14 16123), KI.block 2, KI.block 1, kCd (bitL 9 507), kLp (bitL 6 59), KI.block 0, kCd (bitL 3 7)] [(3, vS Bk (rowsK h.pages h.pages[i].slots i k).length dk), (4, vI (↑i : Int)), (11, vS (some a_1) h.pages.length chpages), (12, vI (↑h.pages.length : Int)), (13, vI (↑i : Int)), (19, vS (some a_2) h.pages[i].slots.length cslots_el1), (20, vI (↑h.pages[i].slots.length : Int)), (21, vI (↑k : Int)), (23, vI (↑k : Int)), (24, vP (a_2.add (k * 1)))] [] ?_
   obtain ⟨Ai_r1, ci_r1, hce_r1, hrw_r1⟩ := rd_row (i := k) hr1_el1 ‹_›
   refine load_one 2 (by kernel_rfl : atP _ _ _ 2 true = some (Op.load 44 (tmpO 24), 44, some 25, Rg.sq (bitL 19 196347) 3)) (n := 1) (by kernel_rfl) rfl ?_
   intro L w1 hs
   refine ⟨.v (.slice Ai_r1 ((h.pages[i].slots)[k]'‹_›).length ci_r1), cellH_ext (hs.old 1 rfl) hce_r1, ?_⟩
   clear hs
   refine gn 0 (Rg.sq (bitL 20 458491) 1) [kCd (bitL 20 982779), KI.block 3, kCd (bitL 17 130811), kLp (bitL 14 16123), KI.block 2, KI.block 1, kCd (bitL 9 507), kLp (bitL 6 59), KI.block 0, kCd (bitL 3 7)] [(3, vS Bk (rowsK h.pages h.pages[i].slots i k).length dk), (4, vI (↑i : Int)), (6, vI (↑k : Int)), (11, vS (some a_1) h.pages.length chpages), (12, vI (↑h.pages.length : Int)), (13, vI (↑i : Int)), (19, vS (some a_2) h.pages[i].slots.length cslots_el1), (20, vI (↑h.pages[i].slots.length : Int)), (21, vI (↑k : Int)), (27, vS Ai_r1 h.pages[i].slots[k].length ci_r1)] [] ?_
   refine cak 90 [vS Ai_r1 h.pages[i].slots[k].length ci_r1] (some 28) (Rg.sq (bitL 20 458491) 2) (fun L w1 hs => (iTupReadX_ok (h.pages[i].slots[k]) (Value.slice Ai_r1 h.pages[i].slots[k].length ci_r1) w1 (x) (true) (rdRow_ext (hs.old 1 rfl) hrw_r1) ‹_› ‹_› hx hok).mono ?_)
   rintro e_ w2_ ⟨bokey_1, Aokey_1, cokey_1, bovalue_1, Aovalue_1, covalue_1, rfl, hf_, hq1, hq2, hq3, hq4⟩
   refine ⟨.one (.v (Value.tuple #[Value.agg #[Value.int IntKind.i64 x.xmin, Value.int IntKind.i64 x.xmax, Value.int IntKind.i64 x.key.kind, Value.int IntKind.i64 x.key.n, Value.float FloatKind.f64 bokey_1, Value.slice Aokey_1 x.key.t.length cokey_1, Value.int IntKind.i64 x.value.kind, Value.int IntKind.i64 x.value.n, Value.float FloatKind.f64 bovalue_1, Value.slice Aovalue_1 x.value.t.length covalue_1], Value.bool true])), _, _, rfl, fun _ => hf_.1.block, hs.fresh hf_, ?_⟩
   clear hs hf_
   refine gn 1 Rg.no [kCd (bitL 21 2031355), KI.block 3, kCd (bitL 17 130811), kLp (bitL 14 16123), KI.block 2, KI.block 1, kCd (bitL 9 507), kLp (bitL 6 59), KI.block 0, kCd (bitL 3 7)] [(3, vS Bk (rowsK h.pages h.pages[i].slots i k).length dk), (4, vI (↑i : Int)), (6, vI (↑k : Int)), (8, vR 0 0), (11, vS (some a_1) h.pages.length chpages), (12, vI (↑h.pages.length : Int)), (13, vI (↑i : Int)), (19, vS (some a_2) h.pages[i].slots.length cslots_el1), (20, vI (↑h.pages[i].slots.length : Int)), (21, vI (↑k : Int)), (31, vB true)] [LB.mk [cI x.xmin, cI x.xmax, cI x.key.kind, cI x.key.n, cF bokey_1, cS Aokey_1 x.key.t.length cokey_1, cI x.value.kind, cI x.value.n, cF bovalue_1, cS Aovalue_1 x.value.t.length covalue_1] 60] ?_
   refine ltk 31 true ?_
   refine gn 2 (Rg.sq (bitL 22 2031355) 6) [KI.block 3, kCd (bitL 17 130811), kLp (bitL 14 16123), KI.block 2, KI.block 1, kCd (bitL 9 507), kLp (bitL 6 59), KI.block 0, kCd (bitL 3 7)] [(4, vI (↑i : Int)), (11, vS (some a_1) h.pages.length chpages), (12, vI (↑h.pages.length : Int)), (13, vI (↑i : Int)), (19, vS (some a_2) h.pages[i].slots.length cslots_el1), (20, vI (↑h.pages[i].slots.length : Int)), (21, vI (↑k : Int)), (32, vS Bk (rowsK h.pages h.pages[i].slots i k).length dk), (37, SV.one (SC.sl 1 0 1 1))] [LB.mk [cI x.xmin, cI x.xmax, cI x.key.kind, cI x.key.n, cF bokey_1, cS Aokey_1 x.key.t.length cokey_1, cI x.value.kind, cI x.value.n, cF bovalue_1, cS Aovalue_1 x.value.t.length covalue_1] 60, LB.mk [cI (↑i : Int), cI (↑k : Int), cI x.xmin, cI x.xmax, cI x.key.kind, cI x.key.n, cF bokey_1, cS Aokey_1 x.key.t.length cokey_1, cI x.value.kind, cI x.value.n, cF bovalue_1, cS Aovalue_1 x.value.t.length covalue_1] 64] ?_
   refine h_turn (A := [_, _]) (B := [elA kRw ⟨(i : Int), (k : Int), x⟩ [.int .i64 (i : Int), .int .i64 (k : Int), .int .i64 x.xmin, .int .i64 x.xmax, .int .i64 x.key.kind, .int .i64 x.key.n, .float .f64 bokey_1, .slice Aokey_1 x.key.t.length cokey_1, .int .i64 x.value.kind, .int .i64 x.value.n, .float .f64 bovalue_1, .slice Aovalue_1 x.value.t.length covalue_1]]) (fun h S ho => one_el (kRw_own (x := ⟨(i : Int), (k : Int), x⟩) hq1 hq2 hq3 hq4 ho)) ?_
   refine h_swap ?_
   refine append_lit (d := kRw) (by_ := 128) (by kernel_rfl : atB _ _ _ false = some (Op.call (Call.mk (Callee.builtin Builtin.append) #[tmpO 32, tmpO 37] #[26, 26]), 26, some 38, Rg.sq (bitL 22 2031355) 7)) (by kernel_rfl) rfl rfl rfl rfl (by simp only [maxLen]; omega) (by omega) ?_
   intro B' d'
   refine gn 0 Rg.no [kLp (bitL 14 16123), KI.block 2, KI.block 1, kCd (bitL 9 507), kLp (bitL 6 59), KI.block 0, kCd (bitL 3 7)] [(3, vS B' (rowsK h.pages h.pages[i].slots i k ++ [Rw.mk (↑i : Int) (↑k : Int) x]).length d'), (4, vI (↑i : Int)), (11, vS (some a_1) h.pages.length chpages), (12, vI (↑h.pages.length : Int)), (13, vI (↑i : Int)), (19, vS (some a_2) h.pages[i].slots.length cslots_el1), (20, vI (↑h.pages[i].slots.length : Int)), (21, vI (IntKind.i64.wrap ((↑k : Int) + 1)))] [] ?_
   rw [← hst, wrap_succ (by omega)]
   exact ihk (k + 1, B', d') hkl (by simp only; omega)
  ·obtain rfl : k = h.pages[i].slots.length := by omega
   rw [rowsK_end hlt]
   refine gn 0 Rg.no [kCd (bitL 16 32507), kCd (bitL 16 65275), kLp (bitL 14 16123), KI.block 2, KI.block 1, kCd (bitL 9 507), kLp (bitL 6 59), KI.block 0, kCd (bitL 3 7)] [(3, vS Bk (rowsH (List.take (i + 1) h.pages) 0).length dk), (4, vI (↑i : Int)), (11, vS (some a_1) h.pages.length chpages), (12, vI (↑h.pages.length : Int)), (13, vI (↑i : Int)), (19, vS Aslots_el1 h.pages[i].slots.length cslots_el1), (20, vI (↑h.pages[i].slots.length : Int)), (21, vI (↑h.pages[i].slots.length : Int)), (22, vB (decide ((↑h.pages[i].slots.length : Int) < (↑h.pages[i].slots.length : Int))))] [] ?_
   refine spl 22 (decide ((↑h.pages[i].slots.length : Int) < (↑h.pages[i].slots.length : Int))) ?_ ?_
   ·intro hb2
    replace hb2 := of_decide_eq_true hb2
    (exfalso; omega)
   ·intro hb2
    replace hb2 := of_decide_eq_false hb2
    refine gn 0 Rg.no [kLp (bitL 6 59), KI.block 0, kCd (bitL 3 7)] [(3, vS Bk (rowsH (List.take (i + 1) h.pages) 0).length dk), (11, vS (some a_1) h.pages.length chpages), (12, vI (↑h.pages.length : Int)), (13, vI (IntKind.i64.wrap ((↑i : Int) + 1)))] [] ?_
    rw [wrap_succ (by omega)]; exact ih (i + 1, Bk, dk) hlt (by simp only; omega)
 obtain rfl : i = h.pages.length := by omega
 rw [List.take_length]
 refine gn 0 Rg.no [kCd (bitL 8 123), kCd (bitL 8 251), kLp (bitL 6 59), KI.block 0, kCd (bitL 3 7)] [(3, vS B (rowsH h.pages 0).length d), (11, vS Ahpages h.pages.length chpages), (12, vI (↑h.pages.length : Int)), (13, vI (↑h.pages.length : Int)), (14, vB (decide ((↑h.pages.length : Int) < (↑h.pages.length : Int))))] [] ?_
 refine spl 14 (decide ((↑h.pages.length : Int) < (↑h.pages.length : Int))) ?_ ?_
 ·intro hb1
  replace hb1 := of_decide_eq_true hb1
  (exfalso; omega)
 ·intro hb1
  replace hb1 := of_decide_eq_false hb1
  refine gn 0 Rg.no [kCd (bitL 4 15)] [(2, vS B (rowsH h.pages 0).length d)] [] ?_
  refine rtk [vS B (rowsH h.pages 0).length d] ?_
  intro L w1 hs
  exact ⟨_, _, rfl, hs.out (As := [_])⟩
def rowsR (h : He) : List Rw := if heapOk h = true then rowsH h.pages 0 else []
theorem sRows_ok (h : He) (csh : List Value) (w : World) (hh : kHe.rd w.heap h csh) (hz : zHe h ≤ 1048576) (hb : byHe h) :
  Calls Tryz.prog 7 #[.agg csh.toArray] w fun e w' => ∃ (B : Option Addr) (d : Nat), e = .returned (.slice B (rowsR h).length d) ∧ Fresh w w' [rowA 64 kRw (rowsR h) (.slice B (rowsR h).length d)] := by
 obtain ⟨Ahpages, chpages, rfl, hrhpages⟩ := kHe_inv hh
 refine enter (args := [.agg [.v (.slice Ahpages h.pages.length chpages)]]) Tryz.func7 (c := bodyOf Tryz.f7) rfl rfl (start_LOK _) (start_old w) ?_
 have rows_on : True := trivial
 have hzh : zHe h = h.pages.length + (h.pages.map zPg).sum := rfl
 have hl : h.pages.length ≤ 1048576 := by omega
 by_cases hok : ¬ heapOk h = true
 ·have hno : rowsR h = [] := if_neg hok
  have nf_9 : (!heapOk h) = true := by rw [Bool.not_eq_true] at hok; rw [hok]; rfl
  refine gn 1 (Rg.sq (bitL 4 3) 1) [kCd (bitL 4 11), kCd (bitL 3 7)] [(1, vR 0 0), (3, vS none 0 0), (8, SV.agg [cS Ahpages h.pages.length chpages])] [LB.mk [cS Ahpages h.pages.length chpages] 30] ?_
  refine cpk 27 [SV.agg [cS Ahpages h.pages.length chpages]] (some 9) (Rg.sq (bitL 4 3) 2) (.one (.bo (heapOk h))) (fun L w1 hs => (sHeapOk_ok (h) ([Value.slice Ahpages h.pages.length chpages]) w1 (kHe_mk (rdRow_ext (hs.old 0 rfl) hrhpages)) ‹_› ‹_›)) ?_
  refine gn 1 Rg.no [kCd (bitL 4 11), kCd (bitL 3 7)] [(1, vR 0 0), (3, vS none 0 0), (10, vB !heapOk h)] [LB.mk [cS Ahpages h.pages.length chpages] 30] ?_
  try simp only [flx, nf_9]
  refine gn 1 Rg.no [kCd (bitL 4 11), kCd (bitL 3 7)] [(1, vR 0 0), (3, vS none 0 0), (10, vB true)] [LB.mk [cS Ahpages h.pages.length chpages] 30] ?_
  refine ltk 10 true ?_
  refine gn 0 Rg.no [kCd (bitL 6 43), kCd (bitL 3 7)] [(2, vS none 0 0)] [] ?_
  refine rtk [vS none 0 0] ?_
  intro L w1 hs
  exact ⟨none, 0, by rw [hno]; rfl, by rw [hno]; exact hs.out1 rowA_nil⟩
 replace hok : heapOk h = true := Classical.not_not.1 hok
 have nf_9 : (!heapOk h) = false := by rw [hok]; rfl
 have hyes : rowsR h = rowsH h.pages 0 := if_pos hok
 rw [hyes]
 refine h_nil 64 kRw ?_
 refine gn 1 (Rg.sq (bitL 4 3) 1) [kCd (bitL 4 11), kCd (bitL 3 7)] [(1, vR 0 0), (3, vS none 0 0), (8, SV.agg [cS Ahpages h.pages.length chpages])] [LB.mk [cS Ahpages h.pages.length chpages] 30] ?_
 refine cpk 27 [SV.agg [cS Ahpages h.pages.length chpages]] (some 9) (Rg.sq (bitL 4 3) 2) (.one (.bo (heapOk h))) (fun L w1 hs => (sHeapOk_ok (h) ([Value.slice Ahpages h.pages.length chpages]) w1 (kHe_mk (rdRow_ext (hs.old 1 rfl) hrhpages)) ‹_› ‹_›)) ?_
 refine gn 1 Rg.no [kCd (bitL 4 11), kCd (bitL 3 7)] [(1, vR 0 0), (3, vS none 0 0), (10, vB !heapOk h)] [LB.mk [cS Ahpages h.pages.length chpages] 30] ?_
 try simp only [flx, nf_9]
 refine gn 1 Rg.no [kCd (bitL 4 11), kCd (bitL 3 7)] [(1, vR 0 0), (3, vS none 0 0), (10, vB false)] [LB.mk [cS Ahpages h.pages.length chpages] 30] ?_
 refine ltk 10 false ?_
 refine gn 1 Rg.no [kLp (bitL 7 119), KI.block 0, kCd (bitL 4 15)] [(1, vR 0 0), (3, vS none 0 0), (4, vI 0)] [LB.mk [cS Ahpages h.pages.length chpages] 30] ?_
 refine loop_at (ι := Nat × Option Addr × Nat) (fun s => [(3, .one (.v (.slice s.2.1 (rowsH (h.pages.take s.1) 0).length s.2.2))), (4, .one (.v (.int .i64 s.1)))]) (fun _ => []) (fun s => [rowA 64 kRw (rowsH (h.pages.take s.1) 0) (.slice s.2.1 (rowsH (h.pages.take s.1) 0).length s.2.2), oldA w]) (fun s => s.1 ≤ h.pages.length) (fun s => h.pages.length - s.1) (0, none, 0) rfl rfl rfl (Nat.zero_le _) ?_
 rintro ⟨i, B, d⟩ hi ih
 simp only at hi ih ⊢
 rcases Nat.lt_or_ge i h.pages.length with hlt | hge
 ·obtain ⟨hp1, hp2⟩ := hb _ (List.getElem_mem hlt)
  refine gn 1 Rg.no [kCd (bitL 9 375), kCd (bitL 8 247), kLp (bitL 7 119), KI.block 0, kCd (bitL 4 15)] [(1, vR 0 0), (3, vS B (rowsH (List.take i h.pages) 0).length d), (4, vI (↑i : Int)), (16, vB (decide ((↑i : Int) < (↑h.pages.length : Int))))] [LB.mk [cS Ahpages h.pages.length chpages] 30] ?_
  refine spl 16 (decide ((↑i : Int) < (↑h.pages.length : Int))) ?_ ?_
  rotate_left
  ·intro hb1
   replace hb1 := of_decide_eq_false hb1
   (exfalso; omega)
  intro hb1
  replace hb1 := of_decide_eq_true hb1
  refine gn 1 Rg.no [kLp (bitL 13 7927), KI.block 2, KI.block 1, kCd (bitL 9 503), kLp (bitL 7 119), KI.block 0, kCd (bitL 4 15)] [(1, vR 0 0), (3, vS B (rowsH (List.take i h.pages) 0).length d), (4, vI (↑i : Int)), (5, vI 0)] [LB.mk [cS Ahpages h.pages.length chpages] 30] ?_
  rw [rowsK_0 h.pages h.pages[i].slots i]
  refine loop_at (ι := Nat × Option Addr × Nat) (fun s => [(3, .one (.v (.slice s.2.1 (rowsK h.pages h.pages[i].slots i s.1).length s.2.2))), (5, .one (.v (.int .i64 s.1)))]) (fun _ => []) (fun s => [rowA 64 kRw (rowsK h.pages h.pages[i].slots i s.1) (.slice s.2.1 (rowsK h.pages h.pages[i].slots i s.1).length s.2.2), oldA w]) (fun s => s.1 ≤ h.pages[i].slots.length) (fun s => h.pages[i].slots.length - s.1) (0, B, d) rfl rfl rfl (Nat.zero_le _) ?_
  rintro ⟨k, Bk, dk⟩ hk ihk
  simp only at hk ihk ⊢
  rcases Nat.lt_or_ge k h.pages[i].slots.length with hkl | hkg
  ·obtain ⟨hby1, hln1⟩ := hp2 _ (List.getElem_mem hkl)
   have hrl := rowsK_len hlt k
   obtain ⟨x, hx⟩ : ∃ x, (tupR h.pages[i].slots[k]).getD zTu0 = x := ⟨_, rfl⟩
   obtain ⟨ok, hok⟩ : ∃ ok, (tupR h.pages[i].slots[k]).isSome = ok := ⟨_, rfl⟩
   cases ok
   ·have hst := rowsK_no (l := h.pages) (i := i) hkl hok
    refine gn 1 (Rg.sq (bitL 15 7927) 4) [kCd (bitL 15 24311), kCd (bitL 14 16119), kLp (bitL 13 7927), KI.block 2, KI.block 1, kCd (bitL 9 503), kLp (bitL 7 119), KI.block 0, kCd (bitL 4 15)] [(1, vR 0 0), (3, vS Bk (rowsK h.pages h.pages[i].slots i k).length dk), (4, vI (↑i : Int)), (5, vI (↑k : Int)), (19, vI (↑k : Int)), (21, vS Ahpages h.pages.length chpages), (22, vI (↑i : Int))] [LB.mk [cS Ahpages h.pages.length chpages] 30] ?_
    refine index_at 4 (by kernel_rfl : atP _ _ _ 4 false = some (Op.indexAddr 28 (tmpO 21) (tmpO 22), 0, some 23, Rg.sq (bitL 15 7927) 5)) (ni := i) (sz := 2) (by kernel_rfl) rfl rfl rfl ‹_› (fun L w1 hs => rd_some (i := i) (rdRow_ext (hs.old 1 rfl) hrhpages) ‹_›) ?_
    intro a_1 ha_1
    cases ha_1
    refine gn 1 (Rg.sq (bitL 15 7927) 6) [kCd (bitL 15 24311), kCd (bitL 14 16119), kLp (bitL 13 7927), KI.block 2, KI.block 1, kCd (bitL 9 503), kLp (bitL 7 119), KI.block 0, kCd (bitL 4 15)] [(1, vR 0 0), (3, vS Bk (rowsK h.pages h.pages[i].slots i k).length dk), (4, vI (↑i : Int)), (5, vI (↑k : Int)), (19, vI (↑k : Int)), (24, vP ((a_1.add (i * 2)).add 1))] [LB.mk [cS (some a_1) h.pages.length chpages] 30] ?_
    obtain ⟨Aslots_el1, cslots_el1, hr1_el1, hc_el1⟩ := kPg_at (i := i) hrhpages ‹_›
    refine load_one 6 (by kernel_rfl : atP _ _ _ 6 true = some (Op.load 56 (tmpO 24), 56, some 25, Rg.sq (bitL 15 7927) 7)) (n := 1) (by kernel_rfl) rfl ?_
    intro L w1 hs
    refine ⟨.v (Value.slice Aslots_el1 h.pages[i].slots.length cslots_el1), cell_at 1 (cellsH_ext (hs.old 1 rfl) hc_el1) rfl, ?_⟩
    clear hs
    refine gn 1 Rg.no [kCd (bitL 15 24311), kCd (bitL 14 16119), kLp (bitL 13 7927), KI.block 2, KI.block 1, kCd (bitL 9 503), kLp (bitL 7 119), KI.block 0, kCd (bitL 4 15)] [(1, vR 0 0), (3, vS Bk (rowsK h.pages h.pages[i].slots i k).length dk), (4, vI (↑i : Int)), (5, vI (↑k : Int)), (27, vB (decide ((↑k : Int) < (↑h.pages[i].slots.length : Int))))] [LB.mk [cS (some a_1) h.pages.length chpages] 30] ?_
    refine spl 27 (decide ((↑k : Int) < (↑h.pages[i].slots.length : Int))) ?_ ?_
    ·intro hb2
     replace hb2 := of_decide_eq_true hb2
     refine gn 1 (Rg.sq (bitL 17 48887) 3) [kCd (bitL 17 114423), KI.block 3, kCd (bitL 15 32503), kLp (bitL 13 7927), KI.block 2, KI.block 1, kCd (bitL 9 503), kLp (bitL 7 119), KI.block 0, kCd (bitL 4 15)] [(1, vR 0 0), (3, vS Bk (rowsK h.pages h.pages[i].slots i k).length dk), (4, vI (↑i : Int)), (5, vI (↑k : Int)), (32, vS (some a_1) h.pages.length chpages), (33, vI (↑i : Int))] [LB.mk [cS (some a_1) h.pages.length chpages] 30] ?_
     refine index_at 3 (by kernel_rfl : atP _ _ _ 3 false = some (Op.indexAddr 28 (tmpO 32) (tmpO 33), 0, some 34, Rg.sq (bitL 17 48887) 4)) (ni := i) (sz := 2) (by kernel_rfl) rfl rfl rfl ‹_› (fun L w1 hs => rd_some (i := i) (rdRow_ext (hs.old 1 rfl) hrhpages) ‹_›) ?_
     intro a_2 ha_2
     cases ha_2
     refine gn 1 (Rg.sq (bitL 17 48887) 5) [kCd (bitL 17 114423), KI.block 3, kCd (bitL 15 32503), kLp (bitL 13 7927), KI.block 2, KI.block 1, kCd (bitL 9 503), kLp (bitL 7 119), KI.block 0, kCd (bitL 4 15)] [(1, vR 0 0), (3, vS Bk (rowsK h.pages h.pages[i].slots i k).length dk), (4, vI (↑i : Int)), (5, vI (↑k : Int)), (35, vP ((a_1.add (i * 2)).add 1))] [LB.mk [cS (some a_1) h.pages.length chpages] 30] ?_
     obtain ⟨Aslots_el2, cslots_el2, hr1_el2, hc_el2⟩ := kPg_at (i := i) hrhpages ‹_›
     refine load_one 5 (by kernel_rfl : atP _ _ _ 5 true = some (Op.load 56 (tmpO 35), 56, some 36, Rg.sq (bitL 17 48887) 6)) (n := 1) (by kernel_rfl) rfl ?_
     intro L w1 hs
     refine ⟨.v (Value.slice Aslots_el2 h.pages[i].slots.length cslots_el2), cell_at 1 (cellsH_ext (hs.old 1 rfl) hc_el2) rfl, ?_⟩
     clear hs
     refine gn 1 (Rg.sq (bitL 17 48887) 7) [kCd (bitL 17 114423), KI.block 3, kCd (bitL 15 32503), kLp (bitL 13 7927), KI.block 2, KI.block 1, kCd (bitL 9 503), kLp (bitL 7 119), KI.block 0, kCd (bitL 4 15)] [(1, vR 0 0), (3, vS Bk (rowsK h.pages h.pages[i].slots i k).length dk), (4, vI (↑i : Int)), (5, vI (↑k : Int)), (36, vS Aslots_el2 h.pages[i].slots.length cslots_el2), (37, vI (↑k : Int))] [LB.mk [cS (some a_1) h.pages.length chpages] 30] ?_
     refine index_at 7 (by kernel_rfl : atP _ _ _ 7 false = some (Op.indexAddr 56 (tmpO 36) (tmpO 37), 0, some 38, Rg.sq (bitL 17 48887) 8)) (ni := k) (sz := 1) (by kernel_rfl) rfl rfl rfl ‹_› (fun L w1 hs => rd_some (i := k) (rdRow_ext (hs.old 1 rfl) hr1_el2) ‹_›) ?_
     intro a_2 ha_2
     cases ha_2
     refine gn 1 (Rg.sq (bitL 17 48887) 8) [kCd (bitL 17 114423), KI.block 3, kCd (bitL 15 32503), kLp (bitL 13 7927), KI.block 2, KI.block 1, kCd (bitL 9 503), kLp (bitL 7 119), KI.block 0, kCd (bitL 4 15)] [(1, vR 0 0), (3, vS Bk (rowsK h.pages h.pages[i].slots i k).length dk), (4, vI (↑i : Int)), (5, vI (↑k : Int)), (38, vP (a_2.add (k * 1)))] [LB.mk [cS (some a_1) h.pages.length chpages] 30] ?_
     obtain ⟨Ai_r1, ci_r1, hce_r1, hrw_r1⟩ := rd_row (i := k) hr1_el2 ‹_›
     refine load_one 8 (by kernel_rfl : atP _ _ _ 8 true = some (Op.load 44 (tmpO 38), 44, some 39, Rg.sq (bitL 17 48887) 9)) (n := 1) (by kernel_rfl) rfl ?_
     intro L w1 hs
     refine ⟨.v (.slice Ai_r1 ((h.pages[i].slots)[k]'‹_›).length ci_r1), cellH_ext (hs.old 1 rfl) hce_r1, ?_⟩
     clear hs
     refine gn 1 (Rg.sq (bitL 17 48887) 9) [kCd (bitL 17 114423), KI.block 3, kCd (bitL 15 32503), kLp (bitL 13 7927), KI.block 2, KI.block 1, kCd (bitL 9 503), kLp (bitL 7 119), KI.block 0, kCd (bitL 4 15)] [(1, vR 0 0), (3, vS Bk (rowsK h.pages h.pages[i].slots i k).length dk), (4, vI (↑i : Int)), (5, vI (↑k : Int)), (39, vS Ai_r1 h.pages[i].slots[k].length ci_r1)] [LB.mk [cS (some a_1) h.pages.length chpages] 30] ?_
     refine cak 28 [vS Ai_r1 h.pages[i].slots[k].length ci_r1] (some 40) (Rg.sq (bitL 17 48887) 10) (fun L w1 hs => (sTupReadX_ok (h.pages[i].slots[k]) (Value.slice Ai_r1 h.pages[i].slots[k].length ci_r1) w1 (x) (false) (rdRow_ext (hs.old 1 rfl) hrw_r1) ‹_› ‹_› hx hok).mono ?_)
     rintro e_ w2_ ⟨bokey_1, Aokey_1, cokey_1, bovalue_1, Aovalue_1, covalue_1, rfl, hf_, hq1, hq2, hq3, hq4⟩
     refine ⟨.one (.v (Value.tuple #[Value.agg #[Value.int IntKind.i64 x.xmin, Value.int IntKind.i64 x.xmax, Value.int IntKind.i64 x.key.kind, Value.int IntKind.i64 x.key.n, Value.float FloatKind.f64 bokey_1, Value.slice Aokey_1 x.key.t.length cokey_1, Value.int IntKind.i64 x.value.kind, Value.int IntKind.i64 x.value.n, Value.float FloatKind.f64 bovalue_1, Value.slice Aovalue_1 x.value.t.length covalue_1], Value.bool false])), _, _, rfl, fun _ => hf_.1.block, hs.fresh hf_, ?_⟩
     clear hs hf_
     refine gn 2 Rg.no [kCd (bitL 18 245495), KI.block 3, kCd (bitL 15 32503), kLp (bitL 13 7927), KI.block 2, KI.block 1, kCd (bitL 9 503), kLp (bitL 7 119), KI.block 0, kCd (bitL 4 15)] [(1, vR 0 0), (3, vS Bk (rowsK h.pages h.pages[i].slots i k).length dk), (4, vI (↑i : Int)), (5, vI (↑k : Int)), (6, vR 1 0), (43, vB false)] [LB.mk [cS (some a_1) h.pages.length chpages] 30, LB.mk [cI x.xmin, cI x.xmax, cI x.key.kind, cI x.key.n, cF bokey_1, cS Aokey_1 x.key.t.length cokey_1, cI x.value.kind, cI x.value.n, cF bovalue_1, cS Aovalue_1 x.value.t.length covalue_1] 60] ?_
     refine ltk 43 false ?_
     refine gn 1 Rg.no [kLp (bitL 13 7927), KI.block 2, KI.block 1, kCd (bitL 9 503), kLp (bitL 7 119), KI.block 0, kCd (bitL 4 15)] [(1, vR 0 0), (3, vS Bk (rowsK h.pages h.pages[i].slots i k).length dk), (4, vI (↑i : Int)), (5, vI (IntKind.i64.wrap ((↑k : Int) + 1)))] [LB.mk [cS (some a_1) h.pages.length chpages] 30] ?_
     refine h_drop ?_; refine h_drop ?_; rw [wrap_succ (by omega), ← hst]; exact ihk (k + 1, Bk, dk) hkl (by simp only; omega)
    ·intro hb2
     replace hb2 := of_decide_eq_false hb2
     (exfalso; omega)
   have hst := rowsK_yes (l := h.pages) (i := i) hkl hx hok
   have hsl : (rowsK h.pages h.pages[i].slots i k).length + 1 = (rowsK h.pages h.pages[i].slots i (k + 1)).length := by rw [hst, List.length_append]; rfl
   refine gn 1 (Rg.sq (bitL 15 7927) 4) [kCd (bitL 15 24311), kCd (bitL 14 16119), kLp (bitL 13 7927), KI.block 2, KI.block 1, kCd (bitL 9 503), kLp (bitL 7 119), KI.block 0, kCd (bitL 4 15)] [(1, vR 0 0), (3, vS Bk (rowsK h.pages h.pages[i].slots i k).length dk), (4, vI (↑i : Int)), (5, vI (↑k : Int)), (19, vI (↑k : Int)), (21, vS Ahpages h.pages.length chpages), (22, vI (↑i : Int))] [LB.mk [cS Ahpages h.pages.length chpages] 30] ?_
   refine index_at 4 (by kernel_rfl : atP _ _ _ 4 false = some (Op.indexAddr 28 (tmpO 21) (tmpO 22), 0, some 23, Rg.sq (bitL 15 7927) 5)) (ni := i) (sz := 2) (by kernel_rfl) rfl rfl rfl ‹_› (fun L w1 hs => rd_some (i := i) (rdRow_ext (hs.old 1 rfl) hrhpages) ‹_›) ?_
   intro a_1 ha_1
   cases ha_1
   refine gn 1 (Rg.sq (bitL 15 7927) 6) [kCd (bitL 15 24311), kCd (bitL 14 16119), kLp (bitL 13 7927), KI.block 2, KI.block 1, kCd (bitL 9 503), kLp (bitL 7 119), KI.block 0, kCd (bitL 4 15)] [(1, vR 0 0), (3, vS Bk (rowsK h.pages h.pages[i].slots i k).length dk), (4, vI (↑i : Int)), (5, vI (↑k : Int)), (19, vI (↑k : Int)), (24, vP ((a_1.add (i * 2)).add 1))] [LB.mk [cS (some a_1) h.pages.length chpages] 30] ?_
   obtain ⟨Aslots_el1, cslots_el1, hr1_el1, hc_el1⟩ := kPg_at (i := i) hrhpages ‹_›
   refine load_one 6 (by kernel_rfl : atP _ _ _ 6 true = some (Op.load 56 (tmpO 24), 56, some 25, Rg.sq (bitL 15 7927) 7)) (n := 1) (by kernel_rfl) rfl ?_
   intro L w1 hs
   refine ⟨.v (Value.slice Aslots_el1 h.pages[i].slots.length cslots_el1), cell_at 1 (cellsH_ext (hs.old 1 rfl) hc_el1) rfl, ?_⟩
   clear hs
   refine gn 1 Rg.no [kCd (bitL 15 24311), kCd (bitL 14 16119), kLp (bitL 13 7927), KI.block 2, KI.block 1, kCd (bitL 9 503), kLp (bitL 7 119), KI.block 0, kCd (bitL 4 15)] [(1, vR 0 0), (3, vS Bk (rowsK h.pages h.pages[i].slots i k).length dk), (4, vI (↑i : Int)), (5, vI (↑k : Int)), (27, vB (decide ((↑k : Int) < (↑h.pages[i].slots.length : Int))))] [LB.mk [cS (some a_1) h.pages.length chpages] 30] ?_
   refine spl 27 (decide ((↑k : Int) < (↑h.pages[i].slots.length : Int))) ?_ ?_
   rotate_left
   ·intro hb2
    replace hb2 := of_decide_eq_false hb2
    (exfalso; omega)
   intro hb2
   replace hb2 := of_decide_eq_true hb2
   refine gn 1 (Rg.sq (bitL 17 48887) 3) [kCd (bitL 17 114423), KI.block 3, kCd (bitL 15 32503), kLp (bitL 13 7927), KI.block 2, KI.block 1, kCd (bitL 9 503), kLp (bitL 7 119), KI.block 0, kCd (bitL 4 15)] [(1, vR 0 0), (3, vS Bk (rowsK h.pages h.pages[i].slots i k).length dk), (4, vI (↑i : Int)), (5, vI (↑k : Int)), (32, vS (some a_1) h.pages.length chpages), (33, vI (↑i : Int))] [LB.mk [cS (some a_1) h.pages.length chpages] 30] ?_
   refine index_at 3 (by kernel_rfl : atP _ _ _ 3 false = some (Op.indexAddr 28 (tmpO 32) (tmpO 33), 0, some 34, Rg.sq (bitL 17 48887) 4)) (ni := i) (sz := 2) (by kernel_rfl) rfl rfl rfl ‹_› (fun L w1 hs => rd_some (i := i) (rdRow_ext (hs.old 1 rfl) hrhpages) ‹_›) ?_
   intro a_2 ha_2
   cases ha_2
   refine gn 1 (Rg.sq (bitL 17 48887) 5) [kCd (bitL 17 114423), KI.block 3, kCd (bitL 15 32503), kLp (bitL 13 7927), KI.block 2, KI.block 1, kCd (bitL 9 503), kLp (bitL 7 119), KI.block 0, kCd (bitL 4 15)] [(1, vR 0 0), (3, vS Bk (rowsK h.pages h.pages[i].slots i k).length dk), (4, vI (↑i : Int)), (5, vI (↑k : Int)), (35, vP ((a_1.add (i * 2)).add 1))] [LB.mk [cS (some a_1) h.pages.length chpages] 30] ?_
   obtain ⟨Aslots_el2, cslots_el2, hr1_el2, hc_el2⟩ := kPg_at (i := i) hrhpages ‹_›
   refine load_one 5 (by kernel_rfl : atP _ _ _ 5 true = some (Op.load 56 (tmpO 35), 56, some 36, Rg.sq (bitL 17 48887) 6)) (n := 1) (by kernel_rfl) rfl ?_
   intro L w1 hs
   refine ⟨.v (Value.slice Aslots_el2 h.pages[i].slots.length cslots_el2), cell_at 1 (cellsH_ext (hs.old 1 rfl) hc_el2) rfl, ?_⟩
   clear hs
   refine gn 1 (Rg.sq (bitL 17 48887) 7) [kCd (bitL 17 114423), KI.block 3, kCd (bitL 15 32503), kLp (bitL 13 7927), KI.block 2, KI.block 1, kCd (bitL 9 503), kLp (bitL 7 119), KI.block 0, kCd (bitL 4 15)] [(1, vR 0 0), (3, vS Bk (rowsK h.pages h.pages[i].slots i k).length dk), (4, vI (↑i : Int)), (5, vI (↑k : Int)), (36, vS Aslots_el2 h.pages[i].slots.length cslots_el2), (37, vI (↑k : Int))] [LB.mk [cS (some a_1) h.pages.length chpages] 30] ?_
   refine index_at 7 (by kernel_rfl : atP _ _ _ 7 false = some (Op.indexAddr 56 (tmpO 36) (tmpO 37), 0, some 38, Rg.sq (bitL 17 48887) 8)) (ni := k) (sz := 1) (by kernel_rfl) rfl rfl rfl ‹_› (fun L w1 hs => rd_some (i := k) (rdRow_ext (hs.old 1 rfl) hr1_el2) ‹_›) ?_
   intro a_2 ha_2
   cases ha_2
   refine gn 1 (Rg.sq (bitL 17 48887) 8) [kCd (bitL 17 114423), KI.block 3, kCd (bitL 15 32503), kLp (bitL 13 7927), KI.block 2, KI.block 1, kCd (bitL 9 503), kLp (bitL 7 119), KI.block 0, kCd (bitL 4 15)] [(1, vR 0 0), (3, vS Bk (rowsK h.pages h.pages[i].slots i k).length dk), (4, vI (↑i : Int)), (5, vI (↑k : Int)), (38, vP (a_2.add (k * 1)))] [LB.mk [cS (some a_1) h.pages.length chpages] 30] ?_
   obtain ⟨Ai_r1, ci_r1, hce_r1, hrw_r1⟩ := rd_row (i := k) hr1_el2 ‹_›
   refine load_one 8 (by kernel_rfl : atP _ _ _ 8 true = some (Op.load 44 (tmpO 38), 44, some 39, Rg.sq (bitL 17 48887) 9)) (n := 1) (by kernel_rfl) rfl ?_
   intro L w1 hs
   refine ⟨.v (.slice Ai_r1 ((h.pages[i].slots)[k]'‹_›).length ci_r1), cellH_ext (hs.old 1 rfl) hce_r1, ?_⟩
   clear hs
   refine gn 1 (Rg.sq (bitL 17 48887) 9) [kCd (bitL 17 114423), KI.block 3, kCd (bitL 15 32503), kLp (bitL 13 7927), KI.block 2, KI.block 1, kCd (bitL 9 503), kLp (bitL 7 119), KI.block 0, kCd (bitL 4 15)] [(1, vR 0 0), (3, vS Bk (rowsK h.pages h.pages[i].slots i k).length dk), (4, vI (↑i : Int)), (5, vI (↑k : Int)), (39, vS Ai_r1 h.pages[i].slots[k].length ci_r1)] [LB.mk [cS (some a_1) h.pages.length chpages] 30] ?_
   refine cak 28 [vS Ai_r1 h.pages[i].slots[k].length ci_r1] (some 40) (Rg.sq (bitL 17 48887) 10) (fun L w1 hs => (sTupReadX_ok (h.pages[i].slots[k]) (Value.slice Ai_r1 h.pages[i].slots[k].length ci_r1) w1 (x) (true) (rdRow_ext (hs.old 1 rfl) hrw_r1) ‹_› ‹_› hx hok).mono ?_)
   rintro e_ w2_ ⟨bokey_1, Aokey_1, cokey_1, bovalue_1, Aovalue_1, covalue_1, rfl, hf_, hq1, hq2, hq3, hq4⟩
   refine ⟨.one (.v (Value.tuple #[Value.agg #[Value.int IntKind.i64 x.xmin, Value.int IntKind.i64 x.xmax, Value.int IntKind.i64 x.key.kind, Value.int IntKind.i64 x.key.n, Value.float FloatKind.f64 bokey_1, Value.slice Aokey_1 x.key.t.length cokey_1, Value.int IntKind.i64 x.value.kind, Value.int IntKind.i64 x.value.n, Value.float FloatKind.f64 bovalue_1, Value.slice Aovalue_1 x.value.t.length covalue_1], Value.bool true])), _, _, rfl, fun _ => hf_.1.block, hs.fresh hf_, ?_⟩
   clear hs hf_
   refine gn 2 Rg.no [kCd (bitL 18 245495), KI.block 3, kCd (bitL 15 32503), kLp (bitL 13 7927), KI.block 2, KI.block 1, kCd (bitL 9 503), kLp (bitL 7 119), KI.block 0, kCd (bitL 4 15)] [(1, vR 0 0), (3, vS Bk (rowsK h.pages h.pages[i].slots i k).length dk), (4, vI (↑i : Int)), (5, vI (↑k : Int)), (6, vR 1 0), (43, vB true)] [LB.mk [cS (some a_1) h.pages.length chpages] 30, LB.mk [cI x.xmin, cI x.xmax, cI x.key.kind, cI x.key.n, cF bokey_1, cS Aokey_1 x.key.t.length cokey_1, cI x.value.kind, cI x.value.n, cF bovalue_1, cS Aovalue_1 x.value.t.length covalue_1] 60] ?_
   refine ltk 43 true ?_
   refine gn 3 (Rg.sq (bitL 19 245495) 6) [KI.block 3, kCd (bitL 15 32503), kLp (bitL 13 7927), KI.block 2, KI.block 1, kCd (bitL 9 503), kLp (bitL 7 119), KI.block 0, kCd (bitL 4 15)] [(1, vR 0 0), (4, vI (↑i : Int)), (5, vI (↑k : Int)), (44, vS Bk (rowsK h.pages h.pages[i].slots i k).length dk), (49, SV.one (SC.sl 2 0 1 1))] [LB.mk [cS (some a_1) h.pages.length chpages] 30, LB.mk [cI x.xmin, cI x.xmax, cI x.key.kind, cI x.key.n, cF bokey_1, cS Aokey_1 x.key.t.length cokey_1, cI x.value.kind, cI x.value.n, cF bovalue_1, cS Aovalue_1 x.value.t.length covalue_1] 60, LB.mk [cI (↑i : Int), cI (↑k : Int), cI x.xmin, cI x.xmax, cI x.key.kind, cI x.key.n, cF bokey_1, cS Aokey_1 x.key.t.length cokey_1, cI x.value.kind, cI x.value.n, cF bovalue_1, cS Aovalue_1 x.value.t.length covalue_1] 64] ?_
   refine h_turn (A := [_, _]) (B := [elA kRw ⟨(i : Int), (k : Int), x⟩ [.int .i64 (i : Int), .int .i64 (k : Int), .int .i64 x.xmin, .int .i64 x.xmax, .int .i64 x.key.kind, .int .i64 x.key.n, .float .f64 bokey_1, .slice Aokey_1 x.key.t.length cokey_1, .int .i64 x.value.kind, .int .i64 x.value.n, .float .f64 bovalue_1, .slice Aovalue_1 x.value.t.length covalue_1]]) (fun h S ho => one_el (kRw_own (x := ⟨(i : Int), (k : Int), x⟩) hq1 hq2 hq3 hq4 ho)) ?_
   refine h_swap ?_
   refine append_lit (d := kRw) (by_ := 128) (by kernel_rfl : atB _ _ _ false = some (Op.call (Call.mk (Callee.builtin Builtin.append) #[tmpO 44, tmpO 49] #[26, 26]), 26, some 50, Rg.sq (bitL 19 245495) 7)) (by kernel_rfl) rfl rfl rfl rfl (by simp only [maxLen]; omega) (by omega) ?_
   intro B' d'
   refine gn 1 Rg.no [kLp (bitL 13 7927), KI.block 2, KI.block 1, kCd (bitL 9 503), kLp (bitL 7 119), KI.block 0, kCd (bitL 4 15)] [(1, vR 0 0), (3, vS B' (rowsK h.pages h.pages[i].slots i k ++ [Rw.mk (↑i : Int) (↑k : Int) x]).length d'), (4, vI (↑i : Int)), (5, vI (IntKind.i64.wrap ((↑k : Int) + 1)))] [LB.mk [cS (some a_1) h.pages.length chpages] 30] ?_
   rw [← hst, wrap_succ (by omega)]
   exact ihk (k + 1, B', d') hkl (by simp only; omega)
  ·obtain rfl : k = h.pages[i].slots.length := by omega
   rw [rowsK_end hlt]
   refine gn 1 (Rg.sq (bitL 15 7927) 4) [kCd (bitL 15 24311), kCd (bitL 14 16119), kLp (bitL 13 7927), KI.block 2, KI.block 1, kCd (bitL 9 503), kLp (bitL 7 119), KI.block 0, kCd (bitL 4 15)] [(1, vR 0 0), (3, vS Bk (rowsH (List.take (i + 1) h.pages) 0).length dk), (4, vI (↑i : Int)), (5, vI (↑h.pages[i].slots.length : Int)), (19, vI (↑h.pages[i].slots.length : Int)), (21, vS Ahpages h.pages.length chpages), (22, vI (↑i : Int))] [LB.mk [cS Ahpages h.pages.length chpages] 30] ?_
   refine index_at 4 (by kernel_rfl : atP _ _ _ 4 false = some (Op.indexAddr 28 (tmpO 21) (tmpO 22), 0, some 23, Rg.sq (bitL 15 7927) 5)) (ni := i) (sz := 2) (by kernel_rfl) rfl rfl rfl ‹_› (fun L w1 hs => rd_some (i := i) (rdRow_ext (hs.old 1 rfl) hrhpages) ‹_›) ?_
   intro a_1 ha_1
   cases ha_1
   refine gn 1 (Rg.sq (bitL 15 7927) 6) [kCd (bitL 15 24311), kCd (bitL 14 16119), kLp (bitL 13 7927), KI.block 2, KI.block 1, kCd (bitL 9 503), kLp (bitL 7 119), KI.block 0, kCd (bitL 4 15)] [(1, vR 0 0), (3, vS Bk (rowsH (List.take (i + 1) h.pages) 0).length dk), (4, vI (↑i : Int)), (5, vI (↑h.pages[i].slots.length : Int)), (19, vI (↑h.pages[i].slots.length : Int)), (24, vP ((a_1.add (i * 2)).add 1))] [LB.mk [cS (some a_1) h.pages.length chpages] 30] ?_
   obtain ⟨Aslots_el1, cslots_el1, hr1_el1, hc_el1⟩ := kPg_at (i := i) hrhpages ‹_›
   refine load_one 6 (by kernel_rfl : atP _ _ _ 6 true = some (Op.load 56 (tmpO 24), 56, some 25, Rg.sq (bitL 15 7927) 7)) (n := 1) (by kernel_rfl) rfl ?_
   intro L w1 hs
   refine ⟨.v (Value.slice Aslots_el1 h.pages[i].slots.length cslots_el1), cell_at 1 (cellsH_ext (hs.old 1 rfl) hc_el1) rfl, ?_⟩
   clear hs
   refine gn 1 Rg.no [kCd (bitL 15 24311), kCd (bitL 14 16119), kLp (bitL 13 7927), KI.block 2, KI.block 1, kCd (bitL 9 503), kLp (bitL 7 119), KI.block 0, kCd (bitL 4 15)] [(1, vR 0 0), (3, vS Bk (rowsH (List.take (i + 1) h.pages) 0).length dk), (4, vI (↑i : Int)), (5, vI (↑h.pages[i].slots.length : Int)), (27, vB (decide ((↑h.pages[i].slots.length : Int) < (↑h.pages[i].slots.length : Int))))] [LB.mk [cS (some a_1) h.pages.length chpages] 30] ?_
   refine spl 27 (decide ((↑h.pages[i].slots.length : Int) < (↑h.pages[i].slots.length : Int))) ?_ ?_
   ·intro hb2
    replace hb2 := of_decide_eq_true hb2
    (exfalso; omega)
   ·intro hb2
    replace hb2 := of_decide_eq_false hb2
    refine gn 1 Rg.no [kLp (bitL 7 119), KI.block 0, kCd (bitL 4 15)] [(1, vR 0 0), (3, vS Bk (rowsH (List.take (i + 1) h.pages) 0).length dk), (4, vI (IntKind.i64.wrap ((↑i : Int) + 1)))] [LB.mk [cS (some a_1) h.pages.length chpages] 30] ?_
    rw [wrap_succ (by omega)]; exact ih (i + 1, Bk, dk) hlt (by simp only; omega)
 obtain rfl : i = h.pages.length := by omega
 rw [List.take_length]
 refine gn 1 Rg.no [kCd (bitL 9 375), kCd (bitL 8 247), kLp (bitL 7 119), KI.block 0, kCd (bitL 4 15)] [(1, vR 0 0), (3, vS B (rowsH h.pages 0).length d), (4, vI (↑h.pages.length : Int)), (16, vB (decide ((↑h.pages.length : Int) < (↑h.pages.length : Int))))] [LB.mk [cS Ahpages h.pages.length chpages] 30] ?_
 refine spl 16 (decide ((↑h.pages.length : Int) < (↑h.pages.length : Int))) ?_ ?_
 ·intro hb1
  replace hb1 := of_decide_eq_true hb1
  (exfalso; omega)
 ·intro hb1
  replace hb1 := of_decide_eq_false hb1
  refine gn 0 Rg.no [kCd (bitL 5 31)] [(2, vS B (rowsH h.pages 0).length d)] [] ?_
  refine rtk [vS B (rowsH h.pages 0).length d] ?_
  intro L w1 hs
  exact ⟨_, _, rfl, hs.out (As := [_])⟩
end Go.Proofs.YtgleoebogikooaaGreat.Dk
