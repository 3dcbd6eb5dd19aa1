/- Walks of functions of the program: what each call returns and what it leaves in memory. Conditions: those that each theorem names. -/
import Derived.Test.YtgleoebogikooaaZ3
namespace Go.Proofs.Ytgleoebogikooaa.Dk
set_option linter.unusedVariables false
set_option linter.unusedSimpArgs false
open Go.Proofs.Ytgleoebogikooaa.Sx Go.Proofs Go.RowKit
set_option maxRecDepth 100000
set_option maxHeartbeats 1000000
def zHe0 : He := ⟨[]⟩
def hpClear (h : He) (page slot lsn : Int) : Option He :=
  if (hpAt h page slot).isSome = true then
    match h.pages[page.toNat]? with
    | some p => (pgClear p slot lsn).map fun q => ⟨h.pages.set page.toNat q⟩
    | none => none
  else none
theorem hpAt_parts {h : He} {page slot : Int} (ha : (hpAt h page slot).isSome = true) : heapOk h = true ∧ (0 ≤ page ∧ page < (h.pages.length : Int)) ∧ ∃ hp : page.toNat < h.pages.length, 0 ≤ slot ∧ slot < (h.pages[page.toNat].slots.length : Int) := by
  unfold hpAt at ha
  split at ha
  · rename_i h1
    obtain ⟨h2, h3⟩ := h1
    have hp : page.toNat < h.pages.length := by omega
    refine ⟨h2, h3, hp, ?_⟩
    rw [List.getElem?_eq_getElem hp] at ha
    simp only at ha
    split at ha
    · rename_i h4; exact h4
    · cases ha
  · cases ha
theorem heapOk_pg {h : He} (ho : heapOk h = true) {p : Pg} (hp : p ∈ h.pages) : 0 ≤ pgU p := by
  unfold heapOk at ho
  simp only [Bool.and_eq_true, List.all_eq_true, decide_eq_true_eq] at ho
  have h1 := ho.2 p hp
  unfold pgGood at h1
  simp only [Bool.and_eq_true, decide_eq_true_eq] at h1
  exact h1.1
theorem hpClear_no {h : He} {page slot lsn : Int} (ha : (hpAt h page slot).isSome = false) : hpClear h page slot lsn = none := by unfold hpClear; rw [if_neg (by rw [ha]; decide)]
theorem hpClear_in {h : He} {page slot lsn : Int} (ha : (hpAt h page slot).isSome = true) (hp : page.toNat < h.pages.length) : hpClear h page slot lsn = (pgClear h.pages[page.toNat] slot lsn).map fun q => ⟨h.pages.set page.toNat q⟩ := by
  unfold hpClear
  rw [if_pos ha, List.getElem?_eq_getElem hp]
theorem iPgClearX_ok (p : Pg) (csp : List Value) (slot lsn : Int) (w : World) (y : Pg) (okc : Bool) (hp : kPg.rd w.heap p csp) (hl : p.slots.length ≤ 1048576) (hs1 : ∀ s ∈ p.slots, s.length ≤ 1048576) (hy : (pgClear p slot lsn).getD zPg0 = y) (hyo : (pgClear p slot lsn).isSome = okc) :
    Calls Try.prog 93 #[.agg csp.toArray, .int .i64 slot, .int .i64 lsn] w fun e w' => ∃ (B : Option Addr) (d : Nat), e = .returned (.tuple #[.agg #[.int .i64 y.lsn, .slice B y.slots.length d], .bool okc]) ∧ Fresh w w' [rowA 40 (kRow 5 kU8) y.slots (.slice B y.slots.length d)] := by
  subst hy hyo
  exact iPgClear_ok p csp slot lsn w hp hl hs1
theorem sPgClearX_ok (p : Pg) (csp : List Value) (slot lsn : Int) (w : World) (y : Pg) (okc : Bool) (hp : kPg.rd w.heap p csp) (hl : p.slots.length ≤ 1048576) (hs1 : ∀ s ∈ p.slots, s.length ≤ 1048576) (hy : (pgClear p slot lsn).getD zPg0 = y) (hyo : (pgClear p slot lsn).isSome = okc) :
    Calls Try.prog 92 #[.agg csp.toArray, .int .i64 slot, .int .i64 lsn] w fun e w' => ∃ (B : Option Addr) (d : Nat), e = .returned (.tuple #[.agg #[.int .i64 y.lsn, .slice B y.slots.length d], .bool okc]) ∧ Fresh w w' [rowA 40 (kRow 5 kU8) y.slots (.slice B y.slots.length d)] := by
  subst hy hyo
  exact sPgClear_ok p csp slot lsn w hp hl hs1
theorem iHClear_ok (h : He) (csh : List Value) (page : Int) (slot : Int) (lsn : Int) (w : World) (hh : kHe.rd w.heap h csh) (hl : h.pages.length ≤ 1048576) (hb : byHe h) :
    Calls Try.prog 50 #[.agg csh.toArray, .int .i64 page, .int .i64 slot, .int .i64 lsn] w fun e w' => ∃ (B : Option Addr) (d : Nat), e = .returned (.tuple #[.agg #[.slice B ((hpClear h page slot lsn).getD zHe0).pages.length d], .bool (hpClear h page slot lsn).isSome]) ∧ Fresh w w' [rowA 115 kPg ((hpClear h page slot lsn).getD zHe0).pages (.slice B ((hpClear h page slot lsn).getD zHe0).pages.length d)] := by
  obtain ⟨Ahpages, chpages, rfl, hrhpages⟩ := kHe_inv hh
  refine enter (args := [.agg [.v (.slice Ahpages h.pages.length chpages)], .one (.v (.int .i64 page)), .one (.v (.int .i64 slot)), .one (.v (.int .i64 lsn))]) Try.func50 (c := bodyOf Try.f50) rfl rfl (start_LOK _) (start_old w) ?_
  obtain ⟨x, hx⟩ : ∃ x, (hpAt h page slot).getD zTu0 = x := ⟨_, rfl⟩
  obtain ⟨ok, ho⟩ : ∃ ok, (hpAt h page slot).isSome = ok := ⟨_, rfl⟩
  cases ok
  · have hno : hpClear h page slot lsn = none := hpClear_no ho
    refine gm [1, 2, 3, 4, 8, 15, 16, 17] 2 (St.mk (Rg.sq (bitL 3 1) 3) [kCd (bitL 3 5), KI.code [true, true]] [(1, vI page), (2, vI slot), (3, vI lsn), (4, vR 0 0), (8, vR 1 0), (15, SV.agg [cS Ahpages h.pages.length chpages]), (16, vI page), (17, vI slot)] [LB.mk [cS Ahpages h.pages.length chpages] 62, LB.mk [cS none 0 0] 62]) ?_
    refine call_at true (by kernel_rfl : atC _ _ _ true = some (44, [SV.agg [cS Ahpages h.pages.length chpages], vI page, vI slot], some 18, Rg.sq (bitL 3 1) 4)) (by kernel_rfl) (fun L w1 hs => (Go.Proofs.Ytgleoebogikooaa.Dk.iHAtX_ok (h) ([Value.slice Ahpages h.pages.length chpages]) (page) (slot) w1 (x) (false) (Go.Proofs.Ytgleoebogikooaa.Dk.kHe_mk (rdRow_ext (hs.old 0 rfl) hrhpages)) (by assumption) (by assumption) hx ho).mono ?_)
    rintro e_ w2_ ⟨bokey_1, Aokey_1, cokey_1, bovalue_1, Aovalue_1, covalue_1, rfl, hf_, hq1, hq2, hq3, hq4⟩
    refine ⟨.one (.v (Value.tuple #[Value.agg #[Value.int IntKind.i64 x.xmin, Value.int IntKind.i64 x.xmax, Value.int IntKind.i64 x.key.kind, Value.int IntKind.i64 x.key.n, Value.float FloatKind.f64 bokey_1, Value.slice Aokey_1 x.key.t.length cokey_1, Value.int IntKind.i64 x.value.kind, Value.int IntKind.i64 x.value.n, Value.float FloatKind.f64 bovalue_1, Value.slice Aovalue_1 x.value.t.length covalue_1], Value.bool false])), _, _, rfl, fun _ => hf_.1.block, hs.fresh hf_, ?_⟩
    clear hs hf_
    refine gm [1, 2, 3, 4, 8, 22] 2 (St.mk Rg.no [kCd (bitL 4 13), KI.code [true, true]] [(1, vI page), (2, vI slot), (3, vI lsn), (4, vR 0 0), (8, vR 1 0), (22, vB true)] [LB.mk [cS Ahpages h.pages.length chpages] 62, LB.mk [cS none 0 0] 62]) ?_
    refine ltk 22 true ?_
    refine gm [8, 9] 2 (St.mk Rg.no [kCd (bitL 6 45), KI.code [true, true]] [(8, vR 1 0), (9, vL false)] [LB.mk [cS Ahpages h.pages.length chpages] 62, LB.mk [cS none 0 0] 62]) ?_
    refine rtk [SV.agg [cS none 0 0], vL false] ?_
    intro L w1 hs
    exact ⟨none, 0, by rw [hno]; rfl, by rw [hno]; exact (hs.erases [0, 0]).out1 rowA_nil⟩
  obtain ⟨hok, hpg, hpt, hsl⟩ := hpAt_parts ho
  obtain ⟨hp1, hp2⟩ := hb _ (List.getElem_mem hpt)
  have hp3 : ∀ s ∈ h.pages[page.toNat].slots, s.length ≤ 1048576 := fun s hs => (hp2 s hs).2
  have hu := heapOk_pg hok (List.getElem_mem hpt)
  obtain ⟨y, hy⟩ : ∃ y, (pgClear h.pages[page.toNat] slot lsn).getD zPg0 = y := ⟨_, rfl⟩
  obtain ⟨okc, hyo⟩ : ∃ okc, (pgClear h.pages[page.toNat] slot lsn).isSome = okc := ⟨_, rfl⟩
  cases okc
  · have hno : hpClear h page slot lsn = none := by rw [hpClear_in ho hpt]; rw [Option.isSome_eq_false_iff, Option.isNone_iff_eq_none] at hyo; rw [hyo]; rfl
    refine gm [1, 2, 3, 4, 8, 15, 16, 17] 2 (St.mk (Rg.sq (bitL 3 1) 3) [kCd (bitL 3 5), KI.code [true, true]] [(1, vI page), (2, vI slot), (3, vI lsn), (4, vR 0 0), (8, vR 1 0), (15, SV.agg [cS Ahpages h.pages.length chpages]), (16, vI page), (17, vI slot)] [LB.mk [cS Ahpages h.pages.length chpages] 62, LB.mk [cS none 0 0] 62]) ?_
    refine call_at true (by kernel_rfl : atC _ _ _ true = some (44, [SV.agg [cS Ahpages h.pages.length chpages], vI page, vI slot], some 18, Rg.sq (bitL 3 1) 4)) (by kernel_rfl) (fun L w1 hs => (Go.Proofs.Ytgleoebogikooaa.Dk.iHAtX_ok (h) ([Value.slice Ahpages h.pages.length chpages]) (page) (slot) w1 (x) (true) (Go.Proofs.Ytgleoebogikooaa.Dk.kHe_mk (rdRow_ext (hs.old 0 rfl) hrhpages)) (by assumption) (by assumption) hx ho).mono ?_)
    rintro e_ w2_ ⟨bokey_1, Aokey_1, cokey_1, bovalue_1, Aovalue_1, covalue_1, rfl, hf_, hq1, hq2, hq3, hq4⟩
    refine ⟨.one (.v (Value.tuple #[Value.agg #[Value.int IntKind.i64 x.xmin, Value.int IntKind.i64 x.xmax, Value.int IntKind.i64 x.key.kind, Value.int IntKind.i64 x.key.n, Value.float FloatKind.f64 bokey_1, Value.slice Aokey_1 x.key.t.length cokey_1, Value.int IntKind.i64 x.value.kind, Value.int IntKind.i64 x.value.n, Value.float FloatKind.f64 bovalue_1, Value.slice Aovalue_1 x.value.t.length covalue_1], Value.bool true])), _, _, rfl, fun _ => hf_.1.block, hs.fresh hf_, ?_⟩
    clear hs hf_
    refine gm [1, 2, 3, 4, 8, 22] 2 (St.mk Rg.no [kCd (bitL 4 13), KI.code [true, true]] [(1, vI page), (2, vI slot), (3, vI lsn), (4, vR 0 0), (8, vR 1 0), (22, vB false)] [LB.mk [cS Ahpages h.pages.length chpages] 62, LB.mk [cS none 0 0] 62]) ?_
    refine ltk 22 false ?_
    refine gm [1, 2, 3, 4, 8, 26, 27] 2 (St.mk (Rg.sq (bitL 3 3) 3) [kCd (bitL 3 7)] [(1, vI page), (2, vI slot), (3, vI lsn), (4, vR 0 0), (8, vR 1 0), (26, vS Ahpages h.pages.length chpages), (27, vI page)] [LB.mk [cS Ahpages h.pages.length chpages] 62, LB.mk [cS none 0 0] 62]) ?_
    refine index_at 3 (by kernel_rfl : atP _ _ _ 3 false = some (Op.indexAddr 60 (tmpO 26) (tmpO 27), 0, some 28, Rg.sq (bitL 3 3) 4)) (ni := page.toNat) (sz := 2) (by kernel_rfl) rfl rfl (by omega) (by assumption) (fun L w1 hs => rd_some (i := page.toNat) (rdRow_ext (hs.old 2 rfl) hrhpages) (by assumption)) ?_
    intro a_1 ha_1
    cases ha_1
    refine gm [1, 2, 3, 4, 8, 28] 2 (St.mk (Rg.sq (bitL 3 3) 4) [kCd (bitL 3 7)] [(1, vI page), (2, vI slot), (3, vI lsn), (4, vR 0 0), (8, vR 1 0), (28, vP (a_1.add (page.toNat * 2)))] [LB.mk [cS (some a_1) h.pages.length chpages] 62, LB.mk [cS none 0 0] 62]) ?_
    obtain ⟨Aslots_el1, cslots_el1, hr1_el1, hc_el1⟩ := Go.Proofs.Ytgleoebogikooaa.Dk.kPg_at (i := page.toNat) hrhpages (by assumption)
    refine load_agg 4 (by kernel_rfl : atP _ _ _ 4 true = some (Op.load 115 (tmpO 28), 115, some 29, Rg.sq (bitL 3 3) 5)) (n := 2) (by kernel_rfl) rfl ?_
    intro L w1 hs
    refine ⟨[.v (Value.int IntKind.i64 h.pages[page.toNat].lsn), .v (Value.slice Aslots_el1 h.pages[page.toNat].slots.length cslots_el1)], rfl, cells_at0 (cellsH_ext (hs.old 2 rfl) hc_el1) rfl, ?_⟩
    clear hs
    refine gm [1, 4, 8, 29, 30, 31] 2 (St.mk (Rg.sq (bitL 3 3) 7) [kCd (bitL 3 7)] [(1, vI page), (4, vR 0 0), (8, vR 1 0), (29, SV.agg [cI h.pages[page.toNat].lsn, cS Aslots_el1 h.pages[page.toNat].slots.length cslots_el1]), (30, vI slot), (31, vI lsn)] [LB.mk [cS (some a_1) h.pages.length chpages] 62, LB.mk [cS none 0 0] 62]) ?_
    refine call_at true (by kernel_rfl : atC _ _ _ true = some (93, [SV.agg [cI h.pages[page.toNat].lsn, cS Aslots_el1 h.pages[page.toNat].slots.length cslots_el1], vI slot, vI lsn], some 32, Rg.sq (bitL 3 3) 8)) (by kernel_rfl) (fun L w1 hs => (Go.Proofs.Ytgleoebogikooaa.Dk.iPgClearX_ok (h.pages[page.toNat]) ([Value.int IntKind.i64 h.pages[page.toNat].lsn, Value.slice Aslots_el1 h.pages[page.toNat].slots.length cslots_el1]) (slot) (lsn) w1 (y) (false) (Go.Proofs.Ytgleoebogikooaa.Dk.kPg_mk (rdRow_ext (hs.old 2 rfl) hr1_el1)) (by assumption) (by assumption) hy hyo).mono ?_)
    rintro e_ w2_ ⟨B_1, d_1, rfl, hf_⟩
    refine ⟨.one (.v (Value.tuple #[Value.agg #[Value.int IntKind.i64 y.lsn, Value.slice B_1 y.slots.length d_1], Value.bool false])), _, _, rfl, fun _ => hf_.1.block, hs.fresh hf_, ?_⟩
    clear hs hf_
    refine gm [1, 4, 8, 12, 36] 3 (St.mk Rg.no [kCd (bitL 5 23), kCd (bitL 4 15)] [(1, vI page), (4, vR 0 0), (8, vR 1 0), (12, vR 2 0), (36, vB true)] [LB.mk [cS (some a_1) h.pages.length chpages] 62, LB.mk [cS none 0 0] 62, LB.mk [cI y.lsn, cS B_1 y.slots.length d_1] 115]) ?_
    refine ltk 36 true ?_
    refine gm [8, 9] 2 (St.mk Rg.no [kCd (bitL 7 87), kCd (bitL 4 15)] [(8, vR 1 0), (9, vL false)] [LB.mk [cS (some a_1) h.pages.length chpages] 62, LB.mk [cS none 0 0] 62]) ?_
    refine rtk [SV.agg [cS none 0 0], vL false] ?_
    intro L w1 hs
    exact ⟨none, 0, by rw [hno]; rfl, by rw [hno]; exact (hs.erases [0, 0, 0]).out1 rowA_nil⟩
  have hyes : hpClear h page slot lsn = some ⟨h.pages.set page.toNat y⟩ := by
    rw [hpClear_in ho hpt]
    cases hq : pgClear h.pages[page.toNat] slot lsn with
    | none => rw [hq] at hyo; cases hyo
    | some q => rw [hq] at hy; subst hy; rfl
  refine gm [1, 2, 3, 4, 8, 15, 16, 17] 2 (St.mk (Rg.sq (bitL 3 1) 3) [kCd (bitL 3 5), KI.code [true, true]] [(1, vI page), (2, vI slot), (3, vI lsn), (4, vR 0 0), (8, vR 1 0), (15, SV.agg [cS Ahpages h.pages.length chpages]), (16, vI page), (17, vI slot)] [LB.mk [cS Ahpages h.pages.length chpages] 62, LB.mk [cS none 0 0] 62]) ?_
  refine call_at true (by kernel_rfl : atC _ _ _ true = some (44, [SV.agg [cS Ahpages h.pages.length chpages], vI page, vI slot], some 18, Rg.sq (bitL 3 1) 4)) (by kernel_rfl) (fun L w1 hs => (Go.Proofs.Ytgleoebogikooaa.Dk.iHAtX_ok (h) ([Value.slice Ahpages h.pages.length chpages]) (page) (slot) w1 (x) (true) (Go.Proofs.Ytgleoebogikooaa.Dk.kHe_mk (rdRow_ext (hs.old 0 rfl) hrhpages)) (by assumption) (by assumption) hx ho).mono ?_)
  rintro e_ w2_ ⟨bokey_1, Aokey_1, cokey_1, bovalue_1, Aovalue_1, covalue_1, rfl, hf_, hq1, hq2, hq3, hq4⟩
  refine ⟨.one (.v (Value.tuple #[Value.agg #[Value.int IntKind.i64 x.xmin, Value.int IntKind.i64 x.xmax, Value.int IntKind.i64 x.key.kind, Value.int IntKind.i64 x.key.n, Value.float FloatKind.f64 bokey_1, Value.slice Aokey_1 x.key.t.length cokey_1, Value.int IntKind.i64 x.value.kind, Value.int IntKind.i64 x.value.n, Value.float FloatKind.f64 bovalue_1, Value.slice Aovalue_1 x.value.t.length covalue_1], Value.bool true])), _, _, rfl, fun _ => hf_.1.block, hs.fresh hf_, ?_⟩
  clear hs hf_
  refine gm [1, 2, 3, 4, 8, 22] 2 (St.mk Rg.no [kCd (bitL 4 13), KI.code [true, true]] [(1, vI page), (2, vI slot), (3, vI lsn), (4, vR 0 0), (8, vR 1 0), (22, vB false)] [LB.mk [cS Ahpages h.pages.length chpages] 62, LB.mk [cS none 0 0] 62]) ?_
  refine ltk 22 false ?_
  refine gm [1, 2, 3, 4, 8, 26, 27] 2 (St.mk (Rg.sq (bitL 3 3) 3) [kCd (bitL 3 7)] [(1, vI page), (2, vI slot), (3, vI lsn), (4, vR 0 0), (8, vR 1 0), (26, vS Ahpages h.pages.length chpages), (27, vI page)] [LB.mk [cS Ahpages h.pages.length chpages] 62, LB.mk [cS none 0 0] 62]) ?_
  refine index_at 3 (by kernel_rfl : atP _ _ _ 3 false = some (Op.indexAddr 60 (tmpO 26) (tmpO 27), 0, some 28, Rg.sq (bitL 3 3) 4)) (ni := page.toNat) (sz := 2) (by kernel_rfl) rfl rfl (by omega) (by assumption) (fun L w1 hs => rd_some (i := page.toNat) (rdRow_ext (hs.old 2 rfl) hrhpages) (by assumption)) ?_
  intro a_1 ha_1
  cases ha_1
  refine gm [1, 2, 3, 4, 8, 28] 2 (St.mk (Rg.sq (bitL 3 3) 4) [kCd (bitL 3 7)] [(1, vI page), (2, vI slot), (3, vI lsn), (4, vR 0 0), (8, vR 1 0), (28, vP (a_1.add (page.toNat * 2)))] [LB.mk [cS (some a_1) h.pages.length chpages] 62, LB.mk [cS none 0 0] 62]) ?_
  obtain ⟨Aslots_el1, cslots_el1, hr1_el1, hc_el1⟩ := Go.Proofs.Ytgleoebogikooaa.Dk.kPg_at (i := page.toNat) hrhpages (by assumption)
  refine load_agg 4 (by kernel_rfl : atP _ _ _ 4 true = some (Op.load 115 (tmpO 28), 115, some 29, Rg.sq (bitL 3 3) 5)) (n := 2) (by kernel_rfl) rfl ?_
  intro L w1 hs
  refine ⟨[.v (Value.int IntKind.i64 h.pages[page.toNat].lsn), .v (Value.slice Aslots_el1 h.pages[page.toNat].slots.length cslots_el1)], rfl, cells_at0 (cellsH_ext (hs.old 2 rfl) hc_el1) rfl, ?_⟩
  clear hs
  refine gm [1, 4, 8, 29, 30, 31] 2 (St.mk (Rg.sq (bitL 3 3) 7) [kCd (bitL 3 7)] [(1, vI page), (4, vR 0 0), (8, vR 1 0), (29, SV.agg [cI h.pages[page.toNat].lsn, cS Aslots_el1 h.pages[page.toNat].slots.length cslots_el1]), (30, vI slot), (31, vI lsn)] [LB.mk [cS (some a_1) h.pages.length chpages] 62, LB.mk [cS none 0 0] 62]) ?_
  refine call_at true (by kernel_rfl : atC _ _ _ true = some (93, [SV.agg [cI h.pages[page.toNat].lsn, cS Aslots_el1 h.pages[page.toNat].slots.length cslots_el1], vI slot, vI lsn], some 32, Rg.sq (bitL 3 3) 8)) (by kernel_rfl) (fun L w1 hs => (Go.Proofs.Ytgleoebogikooaa.Dk.iPgClearX_ok (h.pages[page.toNat]) ([Value.int IntKind.i64 h.pages[page.toNat].lsn, Value.slice Aslots_el1 h.pages[page.toNat].slots.length cslots_el1]) (slot) (lsn) w1 (y) (true) (Go.Proofs.Ytgleoebogikooaa.Dk.kPg_mk (rdRow_ext (hs.old 2 rfl) hr1_el1)) (by assumption) (by assumption) hy hyo).mono ?_)
  rintro e_ w2_ ⟨B_1, d_1, rfl, hf_⟩
  refine ⟨.one (.v (Value.tuple #[Value.agg #[Value.int IntKind.i64 y.lsn, Value.slice B_1 y.slots.length d_1], Value.bool true])), _, _, rfl, fun _ => hf_.1.block, hs.fresh hf_, ?_⟩
  clear hs hf_
  refine gm [1, 4, 8, 12, 36] 3 (St.mk Rg.no [kCd (bitL 5 23), kCd (bitL 4 15)] [(1, vI page), (4, vR 0 0), (8, vR 1 0), (12, vR 2 0), (36, vB false)] [LB.mk [cS (some a_1) h.pages.length chpages] 62, LB.mk [cS none 0 0] 62, LB.mk [cI y.lsn, cS B_1 y.slots.length d_1] 115]) ?_
  refine ltk 36 false ?_
  refine gm [8, 38, 39, 40] 2 (St.mk (Rg.sq (bitL 5 15) 3) [kCd (bitL 5 31)] [(8, vR 1 0), (38, SV.agg [cS (some a_1) h.pages.length chpages]), (39, vI page), (40, SV.agg [cI y.lsn, cS B_1 y.slots.length d_1])] [LB.mk [cS (some a_1) h.pages.length chpages] 62, LB.mk [cS none 0 0] 62]) ?_
  refine call_mutT (A := [rowA 40 (kRow 5 kU8) y.slots (.slice B_1 y.slots.length d_1)]) (by kernel_rfl : atC _ _ _ false = some (94, [SV.agg [cS (some a_1) h.pages.length chpages], vI page, SV.agg [cI y.lsn, cS B_1 y.slots.length d_1]], some 41, Rg.sq (bitL 5 15) 4)) (by kernel_rfl) (fun L w1 S hs hA hS hT hLn => (with_ok h (some a_1) chpages y B_1 d_1 page w w1 S hA hS hrhpages hs.1.1.size (old_apart (by obtain ⟨T, h1, h2⟩ := hT; exact ⟨T, h1, fun b hb => (h2 b hb).1⟩) 2 rfl).2 (old_apart (by obtain ⟨T, h1, h2⟩ := hT; exact ⟨T, h1, fun b hb => (h2 b hb).1⟩) 2 rfl).1 hpg hl hb).mono ?_)
  rintro e w2 ⟨B2, d2, rfl, hm⟩
  refine ⟨.agg [.v (.slice B2 h.pages.length d2)], _, rfl, hm, ?_⟩
  clear hm hs hA hS hT hLn
  refine gm [8, 9] 2 (St.mk Rg.no [kCd (bitL 5 31)] [(8, vR 1 0), (9, vL true)] [LB.mk [cS (some a_1) h.pages.length chpages] 62, LB.mk [cS B2 h.pages.length d2] 62]) ?_
  refine rtk [SV.agg [cS B2 h.pages.length d2], vL true] ?_
  intro L w1 hs
  exact ⟨_, _, by rw [hyes]; show _ = Ending.returned (.tuple #[.agg #[.slice _ (h.pages.set page.toNat y).length _], .bool true]); rw [List.length_set]; rfl, by rw [hyes]; show Fresh _ _ [rowA 115 kPg (h.pages.set page.toNat y) (.slice _ (h.pages.set page.toNat y).length _)]; rw [List.length_set]; exact (hs.erases [1, 1]).out (As := [_])⟩

theorem sHClear_ok (h : He) (csh : List Value) (page : Int) (slot : Int) (lsn : Int) (w : World) (hh : kHe.rd w.heap h csh) (hl : h.pages.length ≤ 1048576) (hb : byHe h) :
    Calls Try.prog 49 #[.agg csh.toArray, .int .i64 page, .int .i64 slot, .int .i64 lsn] w fun e w' => ∃ (B : Option Addr) (d : Nat), e = .returned (.tuple #[.agg #[.slice B ((hpClear h page slot lsn).getD zHe0).pages.length d], .bool (hpClear h page slot lsn).isSome]) ∧ Fresh w w' [rowA 115 kPg ((hpClear h page slot lsn).getD zHe0).pages (.slice B ((hpClear h page slot lsn).getD zHe0).pages.length d)] := by
  obtain ⟨Ahpages, chpages, rfl, hrhpages⟩ := kHe_inv hh
  refine enter (args := [.agg [.v (.slice Ahpages h.pages.length chpages)], .one (.v (.int .i64 page)), .one (.v (.int .i64 slot)), .one (.v (.int .i64 lsn))]) Try.func49 (c := bodyOf Try.f49) rfl rfl (start_LOK _) (start_old w) ?_
  obtain ⟨x, hx⟩ : ∃ x, (hpAt h page slot).getD zTu0 = x := ⟨_, rfl⟩
  obtain ⟨ok, ho⟩ : ∃ ok, (hpAt h page slot).isSome = ok := ⟨_, rfl⟩
  cases ok
  · have hno : hpClear h page slot lsn = none := hpClear_no ho
    refine gm [1, 2, 3, 4, 8, 16, 17, 18] 2 (St.mk (Rg.sq [true, false] 3) [KI.code [true, true]] [(1, vI page), (2, vI slot), (3, vI lsn), (4, vR 0 0), (8, vR 1 0), (16, SV.agg [cS Ahpages h.pages.length chpages]), (17, vI page), (18, vI slot)] [LB.mk [cS Ahpages h.pages.length chpages] 62, LB.mk [cS none 0 0] 62]) ?_
    refine call_at true (by kernel_rfl : atC _ _ _ true = some (43, [SV.agg [cS Ahpages h.pages.length chpages], vI page, vI slot], some 19, Rg.sq [true, false] 4)) (by kernel_rfl) (fun L w1 hs => (Go.Proofs.Ytgleoebogikooaa.Dk.sHAtX_ok (h) ([Value.slice Ahpages h.pages.length chpages]) (page) (slot) w1 (x) (false) (Go.Proofs.Ytgleoebogikooaa.Dk.kHe_mk (rdRow_ext (hs.old 0 rfl) hrhpages)) (by assumption) (by assumption) hx ho).mono ?_)
    rintro e_ w2_ ⟨bokey_1, Aokey_1, cokey_1, bovalue_1, Aovalue_1, covalue_1, rfl, hf_, hq1, hq2, hq3, hq4⟩
    refine ⟨.one (.v (Value.tuple #[Value.agg #[Value.int IntKind.i64 x.xmin, Value.int IntKind.i64 x.xmax, Value.int IntKind.i64 x.key.kind, Value.int IntKind.i64 x.key.n, Value.float FloatKind.f64 bokey_1, Value.slice Aokey_1 x.key.t.length cokey_1, Value.int IntKind.i64 x.value.kind, Value.int IntKind.i64 x.value.n, Value.float FloatKind.f64 bovalue_1, Value.slice Aovalue_1 x.value.t.length covalue_1], Value.bool false])), _, _, rfl, fun _ => hf_.1.block, hs.fresh hf_, ?_⟩
    clear hs hf_
    refine gm [1, 2, 3, 4, 8, 24] 2 (St.mk (Rg.sq (bitL 4 3) 3) [kCd (bitL 4 11), kCd (bitL 3 7)] [(1, vI page), (2, vI slot), (3, vI lsn), (4, vR 0 0), (8, vR 1 0), (24, vB true)] [LB.mk [cS Ahpages h.pages.length chpages] 62, LB.mk [cS none 0 0] 62]) ?_
    refine ltk 24 true ?_
    refine gm [8, 9] 2 (St.mk Rg.no [kCd (bitL 6 43), kCd (bitL 3 7)] [(8, vR 1 0), (9, vL false)] [LB.mk [cS Ahpages h.pages.length chpages] 62, LB.mk [cS none 0 0] 62]) ?_
    refine rtk [SV.agg [cS none 0 0], vL false] ?_
    intro L w1 hs
    exact ⟨none, 0, by rw [hno]; rfl, by rw [hno]; exact (hs.erases [0, 0]).out1 rowA_nil⟩
  obtain ⟨hok, hpg, hpt, hsl⟩ := hpAt_parts ho
  obtain ⟨hp1, hp2⟩ := hb _ (List.getElem_mem hpt)
  have hp3 : ∀ s ∈ h.pages[page.toNat].slots, s.length ≤ 1048576 := fun s hs => (hp2 s hs).2
  have hu := heapOk_pg hok (List.getElem_mem hpt)
  obtain ⟨y, hy⟩ : ∃ y, (pgClear h.pages[page.toNat] slot lsn).getD zPg0 = y := ⟨_, rfl⟩
  obtain ⟨okc, hyo⟩ : ∃ okc, (pgClear h.pages[page.toNat] slot lsn).isSome = okc := ⟨_, rfl⟩
  by_cases hln : ¬ (1 ≤ lsn ∧ lsn ≤ 1000000)
  · have hno : hpClear h page slot lsn = none := by rw [hpClear_in ho hpt]; unfold pgClear; rw [if_neg (fun hc => hln hc.2.2)]; rfl
    refine gm [1, 2, 3, 4, 8, 16, 17, 18] 2 (St.mk (Rg.sq [true, false] 3) [KI.code [true, true]] [(1, vI page), (2, vI slot), (3, vI lsn), (4, vR 0 0), (8, vR 1 0), (16, SV.agg [cS Ahpages h.pages.length chpages]), (17, vI page), (18, vI slot)] [LB.mk [cS Ahpages h.pages.length chpages] 62, LB.mk [cS none 0 0] 62]) ?_
    refine call_at true (by kernel_rfl : atC _ _ _ true = some (43, [SV.agg [cS Ahpages h.pages.length chpages], vI page, vI slot], some 19, Rg.sq [true, false] 4)) (by kernel_rfl) (fun L w1 hs => (Go.Proofs.Ytgleoebogikooaa.Dk.sHAtX_ok (h) ([Value.slice Ahpages h.pages.length chpages]) (page) (slot) w1 (x) (true) (Go.Proofs.Ytgleoebogikooaa.Dk.kHe_mk (rdRow_ext (hs.old 0 rfl) hrhpages)) (by assumption) (by assumption) hx ho).mono ?_)
    rintro e_ w2_ ⟨bokey_1, Aokey_1, cokey_1, bovalue_1, Aovalue_1, covalue_1, rfl, hf_, hq1, hq2, hq3, hq4⟩
    refine ⟨.one (.v (Value.tuple #[Value.agg #[Value.int IntKind.i64 x.xmin, Value.int IntKind.i64 x.xmax, Value.int IntKind.i64 x.key.kind, Value.int IntKind.i64 x.key.n, Value.float FloatKind.f64 bokey_1, Value.slice Aokey_1 x.key.t.length cokey_1, Value.int IntKind.i64 x.value.kind, Value.int IntKind.i64 x.value.n, Value.float FloatKind.f64 bovalue_1, Value.slice Aovalue_1 x.value.t.length covalue_1], Value.bool true])), _, _, rfl, fun _ => hf_.1.block, hs.fresh hf_, ?_⟩
    clear hs hf_
    refine gm [1, 2, 3, 4, 8, 24] 2 (St.mk (Rg.sq (bitL 4 3) 3) [kCd (bitL 4 11), kCd (bitL 3 7)] [(1, vI page), (2, vI slot), (3, vI lsn), (4, vR 0 0), (8, vR 1 0), (24, vB false)] [LB.mk [cS Ahpages h.pages.length chpages] 62, LB.mk [cS none 0 0] 62]) ?_
    refine ltk 24 false ?_
    refine gm [1, 2, 3, 4, 8, 24, 25] 2 (St.mk (Rg.sq (bitL 4 3) 4) [kCd (bitL 4 11), kCd (bitL 3 7)] [(1, vI page), (2, vI slot), (3, vI lsn), (4, vR 0 0), (8, vR 1 0), (24, vL false), (25, vI lsn)] [LB.mk [cS Ahpages h.pages.length chpages] 62, LB.mk [cS none 0 0] 62]) ?_
    refine call_pure true (by kernel_rfl : atC _ _ _ true = some (85, [vI lsn, vI 1, vI 1000000], some 26, Rg.sq (bitL 4 3) 5)) (by kernel_rfl) (.one (.bo (decide (1 ≤ lsn) && decide (lsn ≤ 1000000)))) (fun L w1 hs => (Go.Proofs.Ytgleoebogikooaa.Dk.l5in_ok (lsn) (1) (1000000) w1)) ?_
    refine gm [1, 2, 3, 4, 8, 28] 2 (St.mk Rg.no [kCd (bitL 4 11), kCd (bitL 3 7)] [(1, vI page), (2, vI slot), (3, vI lsn), (4, vR 0 0), (8, vR 1 0), (28, vB !(decide (1 ≤ lsn) && decide (lsn ≤ 1000000)))] [LB.mk [cS Ahpages h.pages.length chpages] 62, LB.mk [cS none 0 0] 62]) ?_
    refine spl 28 (!(decide (1 ≤ lsn) && decide (lsn ≤ 1000000))) ?_ ?_
    · intro hb1
      try simp only [sbb] at hb1
      refine gm [8, 9] 2 (St.mk Rg.no [kCd (bitL 6 43), kCd (bitL 3 7)] [(8, vR 1 0), (9, vL false)] [LB.mk [cS Ahpages h.pages.length chpages] 62, LB.mk [cS none 0 0] 62]) ?_
      refine rtk [SV.agg [cS none 0 0], vL false] ?_
      intro L w1 hs
      exact ⟨none, 0, by rw [hno]; rfl, by rw [hno]; exact (hs.erases [0, 0]).out1 rowA_nil⟩
    · intro hb1
      try simp only [sbb] at hb1
      (exfalso; omega)
  replace hln := Classical.not_not.1 hln
  have hyc : pgClear h.pages[page.toNat] slot lsn = some ⟨lsn, trimE (h.pages[page.toNat].slots.set slot.toNat [])⟩ := if_pos ⟨hu, hsl, hln⟩
  have hyes : hpClear h page slot lsn = some ⟨h.pages.set page.toNat y⟩ := by
    rw [hpClear_in ho hpt, hyc]
    rw [hyc] at hy; subst hy; rfl
  refine gm [1, 2, 3, 4, 8, 16, 17, 18] 2 (St.mk (Rg.sq [true, false] 3) [KI.code [true, true]] [(1, vI page), (2, vI slot), (3, vI lsn), (4, vR 0 0), (8, vR 1 0), (16, SV.agg [cS Ahpages h.pages.length chpages]), (17, vI page), (18, vI slot)] [LB.mk [cS Ahpages h.pages.length chpages] 62, LB.mk [cS none 0 0] 62]) ?_
  refine call_at true (by kernel_rfl : atC _ _ _ true = some (43, [SV.agg [cS Ahpages h.pages.length chpages], vI page, vI slot], some 19, Rg.sq [true, false] 4)) (by kernel_rfl) (fun L w1 hs => (Go.Proofs.Ytgleoebogikooaa.Dk.sHAtX_ok (h) ([Value.slice Ahpages h.pages.length chpages]) (page) (slot) w1 (x) (true) (Go.Proofs.Ytgleoebogikooaa.Dk.kHe_mk (rdRow_ext (hs.old 0 rfl) hrhpages)) (by assumption) (by assumption) hx ho).mono ?_)
  rintro e_ w2_ ⟨bokey_1, Aokey_1, cokey_1, bovalue_1, Aovalue_1, covalue_1, rfl, hf_, hq1, hq2, hq3, hq4⟩
  refine ⟨.one (.v (Value.tuple #[Value.agg #[Value.int IntKind.i64 x.xmin, Value.int IntKind.i64 x.xmax, Value.int IntKind.i64 x.key.kind, Value.int IntKind.i64 x.key.n, Value.float FloatKind.f64 bokey_1, Value.slice Aokey_1 x.key.t.length cokey_1, Value.int IntKind.i64 x.value.kind, Value.int IntKind.i64 x.value.n, Value.float FloatKind.f64 bovalue_1, Value.slice Aovalue_1 x.value.t.length covalue_1], Value.bool true])), _, _, rfl, fun _ => hf_.1.block, hs.fresh hf_, ?_⟩
  clear hs hf_
  refine gm [1, 2, 3, 4, 8, 24] 2 (St.mk (Rg.sq (bitL 4 3) 3) [kCd (bitL 4 11), kCd (bitL 3 7)] [(1, vI page), (2, vI slot), (3, vI lsn), (4, vR 0 0), (8, vR 1 0), (24, vB false)] [LB.mk [cS Ahpages h.pages.length chpages] 62, LB.mk [cS none 0 0] 62]) ?_
  refine ltk 24 false ?_
  refine gm [1, 2, 3, 4, 8, 24, 25] 2 (St.mk (Rg.sq (bitL 4 3) 4) [kCd (bitL 4 11), kCd (bitL 3 7)] [(1, vI page), (2, vI slot), (3, vI lsn), (4, vR 0 0), (8, vR 1 0), (24, vL false), (25, vI lsn)] [LB.mk [cS Ahpages h.pages.length chpages] 62, LB.mk [cS none 0 0] 62]) ?_
  refine call_pure true (by kernel_rfl : atC _ _ _ true = some (85, [vI lsn, vI 1, vI 1000000], some 26, Rg.sq (bitL 4 3) 5)) (by kernel_rfl) (.one (.bo (decide (1 ≤ lsn) && decide (lsn ≤ 1000000)))) (fun L w1 hs => (Go.Proofs.Ytgleoebogikooaa.Dk.l5in_ok (lsn) (1) (1000000) w1)) ?_
  refine gm [1, 2, 3, 4, 8, 28] 2 (St.mk Rg.no [kCd (bitL 4 11), kCd (bitL 3 7)] [(1, vI page), (2, vI slot), (3, vI lsn), (4, vR 0 0), (8, vR 1 0), (28, vB !(decide (1 ≤ lsn) && decide (lsn ≤ 1000000)))] [LB.mk [cS Ahpages h.pages.length chpages] 62, LB.mk [cS none 0 0] 62]) ?_
  refine spl 28 (!(decide (1 ≤ lsn) && decide (lsn ≤ 1000000))) ?_ ?_
  · intro hb1
    try simp only [sbb] at hb1
    (exfalso; omega)
  intro hb1
  try simp only [sbb] at hb1
  refine gm [1, 2, 3, 8, 30] 2 (St.mk (Rg.sq (bitL 4 7) 1) [kCd (bitL 4 15)] [(1, vI page), (2, vI slot), (3, vI lsn), (8, vR 1 0), (30, SV.agg [cS Ahpages h.pages.length chpages])] [LB.mk [cS Ahpages h.pages.length chpages] 62, LB.mk [cS none 0 0] 62]) ?_
  refine call_at true (by kernel_rfl : atC _ _ _ true = some (91, [SV.agg [cS Ahpages h.pages.length chpages]], some 31, Rg.sq (bitL 4 7) 2)) (by kernel_rfl) (fun L w1 hs => (Go.Proofs.Ytgleoebogikooaa.Dk.l10copy_ok (h) ([Value.slice Ahpages h.pages.length chpages]) w1 (Go.Proofs.Ytgleoebogikooaa.Dk.kHe_mk (rdRow_ext (hs.old 2 rfl) hrhpages)) (by assumption) (by assumption)).mono ?_)
  rintro e_ w2_ ⟨B_1, d_1, rfl, hf_⟩
  refine ⟨.agg [.v (Value.slice B_1 h.pages.length d_1)], _, _, rfl, fun _ => hf_.1.block, hs.fresh hf_, ?_⟩
  clear hs hf_
  refine gm [1, 2, 3, 8, 12, 34, 35] 3 (St.mk (Rg.sq (bitL 5 15) 3) [kCd (bitL 5 31)] [(1, vI page), (2, vI slot), (3, vI lsn), (8, vR 1 0), (12, vR 2 0), (34, vS B_1 h.pages.length d_1), (35, vI page)] [LB.mk [cS Ahpages h.pages.length chpages] 62, LB.mk [cS none 0 0] 62, LB.mk [cS B_1 h.pages.length d_1] 62]) ?_
  refine index_at 3 (by kernel_rfl : atP _ _ _ 3 false = some (Op.indexAddr 60 (tmpO 34) (tmpO 35), 0, some 36, Rg.sq (bitL 5 15) 4)) (ni := page.toNat) (sz := 2) (by kernel_rfl) rfl rfl (by omega) (by assumption) (fun L w1 hs => rd_some (i := page.toNat) (hs.rd 0 rfl) (by assumption)) ?_
  intro a_1 ha_1
  cases ha_1
  refine gm [1, 2, 3, 8, 12, 36] 3 (St.mk (Rg.sq (bitL 5 15) 4) [kCd (bitL 5 31)] [(1, vI page), (2, vI slot), (3, vI lsn), (8, vR 1 0), (12, vR 2 0), (36, vP (a_1.add (page.toNat * 2)))] [LB.mk [cS Ahpages h.pages.length chpages] 62, LB.mk [cS none 0 0] 62, LB.mk [cS (some a_1) h.pages.length d_1] 62]) ?_
  refine h_own_g (by omega) (fun g hA => ?_)
  cases hA
  refine h_focus hpt (fun cs => ?_)
  refine h_el_Pg ?_
  rintro A1 c1 rfl
  refine load_agg 4 (by kernel_rfl : atP _ _ _ 4 true = some (Op.load 115 (tmpO 36), 115, some 37, Rg.sq (bitL 5 15) 5)) (n := 2) (by kernel_rfl) rfl ?_
  intro L w1 hs
  obtain ⟨S1, hS1, hh⟩ := hs.at_ 1 rfl
  refine ⟨[.v (.int .i64 h.pages[page.toNat].lsn), .v (.slice A1 h.pages[page.toNat].slots.length c1)], rfl, cells_at0 (hole_cell hh) rfl, ?_⟩
  clear hs hh hS1 S1
  refine gm [1, 8, 12, 37, 38, 39] 3 (St.mk (Rg.sq (bitL 5 15) 7) [kCd (bitL 5 31)] [(1, vI page), (8, vR 1 0), (12, vR 2 0), (37, SV.agg [cI h.pages[page.toNat].lsn, cS A1 h.pages[page.toNat].slots.length c1]), (38, vI slot), (39, vI lsn)] [LB.mk [cS Ahpages h.pages.length chpages] 62, LB.mk [cS none 0 0] 62, LB.mk [cS (some (Addr.mk g 0 none)) h.pages.length d_1] 62]) ?_
  refine call_at true (by kernel_rfl : atC _ _ _ true = some (92, [SV.agg [cI h.pages[page.toNat].lsn, cS A1 h.pages[page.toNat].slots.length c1], vI slot, vI lsn], some 40, Rg.sq (bitL 5 15) 8)) (by kernel_rfl) (fun L w1 hs => (Go.Proofs.Ytgleoebogikooaa.Dk.sPgClearX_ok (h.pages[page.toNat]) ([Value.int IntKind.i64 h.pages[page.toNat].lsn, Value.slice A1 h.pages[page.toNat].slots.length c1]) (slot) (lsn) w1 (y) (okc) (Go.Proofs.Ytgleoebogikooaa.Dk.kPg_mk (hs.rd 0 rfl)) (by assumption) (by assumption) hy hyo).mono ?_)
  rintro e_ w2_ ⟨B_1, d_2, rfl, hf_⟩
  refine ⟨.one (.v (Value.tuple #[Value.agg #[Value.int IntKind.i64 y.lsn, Value.slice B_1 y.slots.length d_2], Value.bool okc])), _, _, rfl, fun _ => hf_.1.block, hs.fresh hf_, ?_⟩
  clear hs hf_
  refine gm [8, 12, 44, 45, 46] 3 (St.mk (Rg.sq (bitL 6 31) 4) [kCd (bitL 6 63)] [(8, vR 1 0), (12, vR 2 0), (44, vS (some (Addr.mk g 0 none)) h.pages.length d_1), (45, vI page), (46, SV.agg [cI y.lsn, cS B_1 y.slots.length d_2])] [LB.mk [cS Ahpages h.pages.length chpages] 62, LB.mk [cS none 0 0] 62, LB.mk [cS (some (Addr.mk g 0 none)) h.pages.length d_1] 62]) ?_
  refine index_at 4 (by kernel_rfl : atP _ _ _ 4 false = some (Op.indexAddr 60 (tmpO 44) (tmpO 45), 0, some 47, Rg.sq (bitL 6 31) 5)) (ni := page.toNat) (sz := 2) (by kernel_rfl) rfl rfl (by omega) hpt (fun L w1 hs => ⟨_, rfl⟩) ?_
  intro a2 ha2; cases ha2
  refine gm [8, 12, 46, 47] 3 (St.mk (Rg.sq (bitL 6 31) 5) [kCd (bitL 6 63)] [(8, vR 1 0), (12, vR 2 0), (46, SV.agg [cI y.lsn, cS B_1 y.slots.length d_2]), (47, vP ((Addr.mk g 0 none).add (page.toNat * 2)))] [LB.mk [cS Ahpages h.pages.length chpages] 62, LB.mk [cS none 0 0] 62, LB.mk [cS (some (Addr.mk g 0 none)) h.pages.length d_1] 62]) ?_
  refine h_bring 2 rfl ?_
  refine h_bring 2 rfl ?_
  refine h_turn (A := [_]) (B := [elA kPg h.pages[page.toNat] [.int .i64 h.pages[page.toNat].lsn, .slice A1 h.pages[page.toNat].slots.length c1]]) (fun h S ho => one_el (kPg_own ho)) ?_
  refine h_unfocus (x := h.pages[page.toNat]) ?_
  rw [List.set_getElem_self]
  refine store_el (A := [_]) (d := kPg) (i := page.toNat) (y := y) (by kernel_rfl : atB _ _ _ false = some (Op.store 115 (tmpO 47) (tmpO 46), 0, none, Rg.sq (bitL 6 31) 6)) (by kernel_rfl) rfl rfl rfl rfl rfl hpt (fun h S ho => kPg_own ho) ?_
  refine gm [8, 9] 2 (St.mk Rg.no [kCd (bitL 7 127)] [(8, vR 1 0), (9, vL true)] [LB.mk [cS Ahpages h.pages.length chpages] 62, LB.mk [cS (some (Addr.mk g 0 none)) h.pages.length d_1] 62]) ?_
  refine rtk [SV.agg [cS (some (Addr.mk g 0 none)) h.pages.length d_1], vL true] ?_
  intro L w1 hs
  exact ⟨_, _, by rw [hyes]; show _ = Ending.returned (.tuple #[.agg #[.slice _ (h.pages.set page.toNat y).length _], .bool true]); rw [List.length_set]; rfl, by rw [hyes]; show Fresh _ _ [rowA 115 kPg (h.pages.set page.toNat y) (.slice _ (h.pages.set page.toNat y).length _)]; rw [List.length_set]; exact (hs.erases [1, 1]).out (As := [_])⟩

end Go.Proofs.Ytgleoebogikooaa.Dk
