/- Walks of functions of the program: what each call returns and what it leaves in memory. Conditions: those that each theorem names. -/
import Derived.Test.YtgleoebogikooaaY2
import Derived.Test.YtgleoebogikooaaX2
namespace Go.Proofs.Ytgleoebogikooaa.Dk
set_option linter.unusedVariables false
set_option linter.unusedSimpArgs false
open Go.Proofs.Ytgleoebogikooaa.Sx Go.Proofs Go.RowKit
set_option maxRecDepth 100000
set_option maxHeartbeats 1000000
def hpAt (h : He) (page slot : Int) : Option Tu :=
  if heapOk h = true ∧ 0 ≤ page ∧ page < (h.pages.length : Int) then
    match h.pages[page.toNat]? with
    | some p => if 0 ≤ slot ∧ slot < (p.slots.length : Int) then (match p.slots[slot.toNat]? with
      | some s => tupR s
      | none => none) else none
    | none => none
  else none
theorem hpAt_bad {h : He} {page slot : Int} (hb : ¬ (heapOk h = true ∧ 0 ≤ page ∧ page < (h.pages.length : Int))) : hpAt h page slot = none := if_neg hb
theorem hpAt_out {h : He} {page slot : Int} (hp : page.toNat < h.pages.length) (hb : ¬ (0 ≤ slot ∧ slot < (h.pages[page.toNat].slots.length : Int))) : hpAt h page slot = none := by
  unfold hpAt
  split
  · rw [List.getElem?_eq_getElem hp]
    exact if_neg hb
  · rfl
theorem hpAt_in {h : He} {page slot : Int} (hb : heapOk h = true ∧ 0 ≤ page ∧ page < (h.pages.length : Int)) (hp : page.toNat < h.pages.length) (hs0 : 0 ≤ slot) (hs : slot.toNat < h.pages[page.toNat].slots.length) : hpAt h page slot = tupR h.pages[page.toNat].slots[slot.toNat] := by
  unfold hpAt
  rw [if_pos hb, List.getElem?_eq_getElem hp]
  simp only
  rw [if_pos (by omega), List.getElem?_eq_getElem hs]
theorem iHAt0_ok (h : He) (csh : List Value) (page : Int) (slot : Int) (w : World) (hh : kHe.rd w.heap h csh) (hl : h.pages.length ≤ 1048576) (hb : byHe h) (hok : heapOk h = true) :
    Calls Try.prog 88 #[.agg csh.toArray, .int .i64 page, .int .i64 slot] w fun e w' => ∃ (bokey_f : Nat) (Aokey_t : Option Addr) (cokey_t : Nat) (bovalue_f : Nat) (Aovalue_t : Option Addr) (covalue_t : Nat), e = .returned (.tuple #[.agg #[.int .i64 ((hpAt h page slot).getD zTu0).xmin, .int .i64 ((hpAt h page slot).getD zTu0).xmax, .int .i64 ((hpAt h page slot).getD zTu0).key.kind, .int .i64 ((hpAt h page slot).getD zTu0).key.n, .float .f64 bokey_f, .slice Aokey_t (((hpAt h page slot).getD zTu0).key.t).length cokey_t, .int .i64 ((hpAt h page slot).getD zTu0).value.kind, .int .i64 ((hpAt h page slot).getD zTu0).value.n, .float .f64 bovalue_f, .slice Aovalue_t (((hpAt h page slot).getD zTu0).value.t).length covalue_t], .bool (hpAt h page slot).isSome]) ∧ Fresh w w' [rowA 5 kU8 (((hpAt h page slot).getD zTu0).value.t) (.slice Aovalue_t (((hpAt h page slot).getD zTu0).value.t).length covalue_t), rowA 5 kU8 (((hpAt h page slot).getD zTu0).key.t) (.slice Aokey_t (((hpAt h page slot).getD zTu0).key.t).length cokey_t)] ∧ bokey_f < 18446744073709551616 ∧ canonF bokey_f = ((hpAt h page slot).getD zTu0).key.f ∧ bovalue_f < 18446744073709551616 ∧ canonF bovalue_f = ((hpAt h page slot).getD zTu0).value.f := by
  obtain ⟨Ahpages, chpages, rfl, hrhpages⟩ := kHe_inv hh
  refine enter (args := [.agg [.v (.slice Ahpages h.pages.length chpages)], .one (.v (.int .i64 page)), .one (.v (.int .i64 slot))]) Try.func88 (c := bodyOf Try.f88) rfl rfl (start_LOK _) (start_old w) ?_
  have rows_on : True := trivial
  have nf_1 : IntKind.i64.wrap ((h.pages.length : Int) - 1) = (h.pages.length : Int) - 1 := by rw [IntKind.wrap_i64]; omega
  by_cases hpg : ¬ (0 ≤ page ∧ page < (h.pages.length : Int))
  · have hno : hpAt h page slot = none := hpAt_bad fun hc => hpg hc.2
    refine gm [1, 2, 3, 6, 8, 12] 2 (St.mk (Rg.sq (bitL 3 1) 5) [kCd (bitL 3 5), KI.code [true, true]] [(1, vI page), (2, vI slot), (3, vR 0 0), (6, vR 1 0), (8, vI page), (12, vI (IntKind.i64.wrap ((↑h.pages.length : Int) - 1)))] [LB.mk [cS Ahpages h.pages.length chpages] 62, LB.mk [cI 0, cI 0, cI 0, cI 0, cF 0, cS none 0 0, cI 0, cI 0, cF 0, cS none 0 0] 70]) ?_
    try simp only [fl_ne_self, fl_eq_self, fl_eq0, fl_ne0, fl_gt0, fl_lt0, nf_1]
    refine call_pure true (by kernel_rfl : atC _ _ _ true = some (55, [vI page, vI 0, vI ((↑h.pages.length : Int) - 1)], some 13, Rg.sq (bitL 3 1) 6)) (by kernel_rfl) (.one (.bo (decide (0 ≤ page) && decide (page ≤ (↑h.pages.length : Int) - 1)))) (fun L w1 hs => (Go.Proofs.Ytgleoebogikooaa.Dk.within_ok (page) (0) ((↑h.pages.length : Int) - 1) w1)) ?_
    refine gm [1, 2, 3, 6, 15] 2 (St.mk (Rg.sq (bitL 3 1) 8) [kCd (bitL 3 5), KI.code [true, true]] [(1, vI page), (2, vI slot), (3, vR 0 0), (6, vR 1 0), (15, vB !(decide (0 ≤ page) && decide (page ≤ (↑h.pages.length : Int) - 1)))] [LB.mk [cS Ahpages h.pages.length chpages] 62, LB.mk [cI 0, cI 0, cI 0, cI 0, cF 0, cS none 0 0, cI 0, cI 0, cF 0, cS none 0 0] 70]) ?_
    refine spl 15 (!(decide (0 ≤ page) && decide (page ≤ (↑h.pages.length : Int) - 1))) ?_ ?_
    · intro hb1
      try simp only [sbb] at hb1
      refine gm [6, 7] 2 (St.mk Rg.no [kCd (bitL 5 21), KI.code [true, true]] [(6, vR 1 0), (7, vL false)] [LB.mk [cS Ahpages h.pages.length chpages] 62, LB.mk [cI 0, cI 0, cI 0, cI 0, cF 0, cS none 0 0, cI 0, cI 0, cF 0, cS none 0 0] 70]) ?_
      refine rtk [SV.agg [cI 0, cI 0, cI 0, cI 0, cF 0, cS none 0 0, cI 0, cI 0, cF 0, cS none 0 0], vL false] ?_
      intro L w1 hs
      exact ⟨0, none, 0, 0, none, 0, by rw [hno]; rfl, by rw [hno]; exact ((hs.triv (A := rowA 5 kU8 ([] : List Int) (.slice none 0 0)) rowA_nil).triv (A := rowA 5 kU8 ([] : List Int) (.slice none 0 0)) rowA_nil).out (As := [_, _]), by decide, by rw [hno]; rfl, by decide, by rw [hno]; rfl⟩
    · intro hb1
      try simp only [sbb] at hb1
      (exfalso; omega)
  replace hpg : 0 ≤ page ∧ page < (h.pages.length : Int) := Classical.not_not.1 hpg
  have hpt : page.toNat < h.pages.length := by omega
  obtain ⟨hp1, hp2⟩ := hb _ (List.getElem_mem hpt)
  have nf_2 : IntKind.i64.wrap ((h.pages[page.toNat].slots.length : Int) - 1) = (h.pages[page.toNat].slots.length : Int) - 1 := by rw [IntKind.wrap_i64]; omega
  by_cases hsl : ¬ (0 ≤ slot ∧ slot < (h.pages[page.toNat].slots.length : Int))
  · have hno : hpAt h page slot = none := hpAt_out hpt hsl
    refine gm [1, 2, 3, 6, 8, 12] 2 (St.mk (Rg.sq (bitL 3 1) 5) [kCd (bitL 3 5), KI.code [true, true]] [(1, vI page), (2, vI slot), (3, vR 0 0), (6, vR 1 0), (8, vI page), (12, vI (IntKind.i64.wrap ((↑h.pages.length : Int) - 1)))] [LB.mk [cS Ahpages h.pages.length chpages] 62, LB.mk [cI 0, cI 0, cI 0, cI 0, cF 0, cS none 0 0, cI 0, cI 0, cF 0, cS none 0 0] 70]) ?_
    try simp only [fl_ne_self, fl_eq_self, fl_eq0, fl_ne0, fl_gt0, fl_lt0, nf_1, nf_2]
    refine call_pure true (by kernel_rfl : atC _ _ _ true = some (55, [vI page, vI 0, vI ((↑h.pages.length : Int) - 1)], some 13, Rg.sq (bitL 3 1) 6)) (by kernel_rfl) (.one (.bo (decide (0 ≤ page) && decide (page ≤ (↑h.pages.length : Int) - 1)))) (fun L w1 hs => (Go.Proofs.Ytgleoebogikooaa.Dk.within_ok (page) (0) ((↑h.pages.length : Int) - 1) w1)) ?_
    refine gm [1, 2, 3, 6, 15] 2 (St.mk (Rg.sq (bitL 3 1) 8) [kCd (bitL 3 5), KI.code [true, true]] [(1, vI page), (2, vI slot), (3, vR 0 0), (6, vR 1 0), (15, vB !(decide (0 ≤ page) && decide (page ≤ (↑h.pages.length : Int) - 1)))] [LB.mk [cS Ahpages h.pages.length chpages] 62, LB.mk [cI 0, cI 0, cI 0, cI 0, cF 0, cS none 0 0, cI 0, cI 0, cF 0, cS none 0 0] 70]) ?_
    refine spl 15 (!(decide (0 ≤ page) && decide (page ≤ (↑h.pages.length : Int) - 1))) ?_ ?_
    · intro hb1
      try simp only [sbb] at hb1
      (exfalso; omega)
    · intro hb1
      try simp only [sbb] at hb1
      refine gm [1, 2, 3, 6, 15, 16, 18, 19] 2 (St.mk (Rg.sq (bitL 3 1) 12) [kCd (bitL 3 5), KI.code [true, true]] [(1, vI page), (2, vI slot), (3, vR 0 0), (6, vR 1 0), (15, vL false), (16, vI slot), (18, vS Ahpages h.pages.length chpages), (19, vI page)] [LB.mk [cS Ahpages h.pages.length chpages] 62, LB.mk [cI 0, cI 0, cI 0, cI 0, cF 0, cS none 0 0, cI 0, cI 0, cF 0, cS none 0 0] 70]) ?_
      refine index_at 12 (by kernel_rfl : atP _ _ _ 12 false = some (Op.indexAddr 60 (tmpO 18) (tmpO 19), 0, some 20, Rg.sq (bitL 3 1) 13)) (ni := page.toNat) (sz := 2) (by kernel_rfl) rfl rfl (by omega) (by assumption) (fun L w1 hs => rd_some (i := page.toNat) (rdRow_ext (hs.old 0 rfl) hrhpages) (by assumption)) ?_
      intro a_1 ha_1
      cases ha_1
      refine gm [1, 2, 3, 6, 15, 16, 21] 2 (St.mk (Rg.sq (bitL 3 1) 14) [kCd (bitL 3 5), KI.code [true, true]] [(1, vI page), (2, vI slot), (3, vR 0 0), (6, vR 1 0), (15, vL false), (16, vI slot), (21, vP ((a_1.add (page.toNat * 2)).add 1))] [LB.mk [cS (some a_1) h.pages.length chpages] 62, LB.mk [cI 0, cI 0, cI 0, cI 0, cF 0, cS none 0 0, cI 0, cI 0, cF 0, cS none 0 0] 70]) ?_
      obtain ⟨Aslots_el1, cslots_el1, hr1_el1, hc_el1⟩ := Go.Proofs.Ytgleoebogikooaa.Dk.kPg_at (i := page.toNat) hrhpages (by assumption)
      refine load_one 14 (by kernel_rfl : atP _ _ _ 14 true = some (Op.load 113 (tmpO 21), 113, some 22, Rg.sq (bitL 3 1) 15)) (n := 1) (by kernel_rfl) rfl ?_
      intro L w1 hs
      refine ⟨.v (Value.slice Aslots_el1 h.pages[page.toNat].slots.length cslots_el1), cell_at 1 (cellsH_ext (hs.old 0 rfl) hc_el1) rfl, ?_⟩
      clear hs
      refine gm [1, 2, 3, 6, 15, 16, 24] 2 (St.mk (Rg.sq (bitL 3 1) 17) [kCd (bitL 3 5), KI.code [true, true]] [(1, vI page), (2, vI slot), (3, vR 0 0), (6, vR 1 0), (15, vL false), (16, vI slot), (24, vI (IntKind.i64.wrap ((↑h.pages[page.toNat].slots.length : Int) - 1)))] [LB.mk [cS (some a_1) h.pages.length chpages] 62, LB.mk [cI 0, cI 0, cI 0, cI 0, cF 0, cS none 0 0, cI 0, cI 0, cF 0, cS none 0 0] 70]) ?_
      try simp only [fl_ne_self, fl_eq_self, fl_eq0, fl_ne0, fl_gt0, fl_lt0, nf_1, nf_2]
      refine call_pure true (by kernel_rfl : atC _ _ _ true = some (55, [vI slot, vI 0, vI ((↑h.pages[page.toNat].slots.length : Int) - 1)], some 25, Rg.sq (bitL 3 1) 18)) (by kernel_rfl) (.one (.bo (decide (0 ≤ slot) && decide (slot ≤ (↑h.pages[page.toNat].slots.length : Int) - 1)))) (fun L w1 hs => (Go.Proofs.Ytgleoebogikooaa.Dk.within_ok (slot) (0) ((↑h.pages[page.toNat].slots.length : Int) - 1) w1)) ?_
      refine gm [1, 2, 3, 6, 27] 2 (St.mk Rg.no [kCd (bitL 3 5), KI.code [true, true]] [(1, vI page), (2, vI slot), (3, vR 0 0), (6, vR 1 0), (27, vB !(decide (0 ≤ slot) && decide (slot ≤ (↑h.pages[page.toNat].slots.length : Int) - 1)))] [LB.mk [cS (some a_1) h.pages.length chpages] 62, LB.mk [cI 0, cI 0, cI 0, cI 0, cF 0, cS none 0 0, cI 0, cI 0, cF 0, cS none 0 0] 70]) ?_
      refine spl 27 (!(decide (0 ≤ slot) && decide (slot ≤ (↑h.pages[page.toNat].slots.length : Int) - 1))) ?_ ?_
      · intro hb2
        try simp only [sbb] at hb2
        refine gm [6, 7] 2 (St.mk Rg.no [kCd (bitL 5 21), KI.code [true, true]] [(6, vR 1 0), (7, vL false)] [LB.mk [cS (some a_1) h.pages.length chpages] 62, LB.mk [cI 0, cI 0, cI 0, cI 0, cF 0, cS none 0 0, cI 0, cI 0, cF 0, cS none 0 0] 70]) ?_
        refine rtk [SV.agg [cI 0, cI 0, cI 0, cI 0, cF 0, cS none 0 0, cI 0, cI 0, cF 0, cS none 0 0], vL false] ?_
        intro L w1 hs
        exact ⟨0, none, 0, 0, none, 0, by rw [hno]; rfl, by rw [hno]; exact ((hs.triv (A := rowA 5 kU8 ([] : List Int) (.slice none 0 0)) rowA_nil).triv (A := rowA 5 kU8 ([] : List Int) (.slice none 0 0)) rowA_nil).out (As := [_, _]), by decide, by rw [hno]; rfl, by decide, by rw [hno]; rfl⟩
      · intro hb2
        try simp only [sbb] at hb2
        (exfalso; omega)
  replace hsl : 0 ≤ slot ∧ slot < (h.pages[page.toNat].slots.length : Int) := Classical.not_not.1 hsl
  have hst : slot.toNat < h.pages[page.toNat].slots.length := by omega
  obtain ⟨hb1, hb2⟩ := hp2 _ (List.getElem_mem hst)
  have hin := hpAt_in ⟨hok, hpg⟩ hpt hsl.1 hst
  obtain ⟨o, ho⟩ : ∃ o, tupR h.pages[page.toNat].slots[slot.toNat] = o := ⟨_, rfl⟩
  have nf_7 := ho
  refine gm [1, 2, 3, 6, 8, 12] 2 (St.mk (Rg.sq (bitL 3 1) 5) [kCd (bitL 3 5), KI.code [true, true]] [(1, vI page), (2, vI slot), (3, vR 0 0), (6, vR 1 0), (8, vI page), (12, vI (IntKind.i64.wrap ((↑h.pages.length : Int) - 1)))] [LB.mk [cS Ahpages h.pages.length chpages] 62, LB.mk [cI 0, cI 0, cI 0, cI 0, cF 0, cS none 0 0, cI 0, cI 0, cF 0, cS none 0 0] 70]) ?_
  try simp only [fl_ne_self, fl_eq_self, fl_eq0, fl_ne0, fl_gt0, fl_lt0, nf_1, nf_2, nf_7]
  refine call_pure true (by kernel_rfl : atC _ _ _ true = some (55, [vI page, vI 0, vI ((↑h.pages.length : Int) - 1)], some 13, Rg.sq (bitL 3 1) 6)) (by kernel_rfl) (.one (.bo (decide (0 ≤ page) && decide (page ≤ (↑h.pages.length : Int) - 1)))) (fun L w1 hs => (Go.Proofs.Ytgleoebogikooaa.Dk.within_ok (page) (0) ((↑h.pages.length : Int) - 1) w1)) ?_
  refine gm [1, 2, 3, 6, 15] 2 (St.mk (Rg.sq (bitL 3 1) 8) [kCd (bitL 3 5), KI.code [true, true]] [(1, vI page), (2, vI slot), (3, vR 0 0), (6, vR 1 0), (15, vB !(decide (0 ≤ page) && decide (page ≤ (↑h.pages.length : Int) - 1)))] [LB.mk [cS Ahpages h.pages.length chpages] 62, LB.mk [cI 0, cI 0, cI 0, cI 0, cF 0, cS none 0 0, cI 0, cI 0, cF 0, cS none 0 0] 70]) ?_
  refine spl 15 (!(decide (0 ≤ page) && decide (page ≤ (↑h.pages.length : Int) - 1))) ?_ ?_
  · intro hb3
    try simp only [sbb] at hb3
    (exfalso; omega)
  · intro hb3
    try simp only [sbb] at hb3
    refine gm [1, 2, 3, 6, 15, 16, 18, 19] 2 (St.mk (Rg.sq (bitL 3 1) 12) [kCd (bitL 3 5), KI.code [true, true]] [(1, vI page), (2, vI slot), (3, vR 0 0), (6, vR 1 0), (15, vL false), (16, vI slot), (18, vS Ahpages h.pages.length chpages), (19, vI page)] [LB.mk [cS Ahpages h.pages.length chpages] 62, LB.mk [cI 0, cI 0, cI 0, cI 0, cF 0, cS none 0 0, cI 0, cI 0, cF 0, cS none 0 0] 70]) ?_
    refine index_at 12 (by kernel_rfl : atP _ _ _ 12 false = some (Op.indexAddr 60 (tmpO 18) (tmpO 19), 0, some 20, Rg.sq (bitL 3 1) 13)) (ni := page.toNat) (sz := 2) (by kernel_rfl) rfl rfl (by omega) (by assumption) (fun L w1 hs => rd_some (i := page.toNat) (rdRow_ext (hs.old 0 rfl) hrhpages) (by assumption)) ?_
    intro a_1 ha_1
    cases ha_1
    refine gm [1, 2, 3, 6, 15, 16, 21] 2 (St.mk (Rg.sq (bitL 3 1) 14) [kCd (bitL 3 5), KI.code [true, true]] [(1, vI page), (2, vI slot), (3, vR 0 0), (6, vR 1 0), (15, vL false), (16, vI slot), (21, vP ((a_1.add (page.toNat * 2)).add 1))] [LB.mk [cS (some a_1) h.pages.length chpages] 62, LB.mk [cI 0, cI 0, cI 0, cI 0, cF 0, cS none 0 0, cI 0, cI 0, cF 0, cS none 0 0] 70]) ?_
    obtain ⟨Aslots_el1, cslots_el1, hr1_el1, hc_el1⟩ := Go.Proofs.Ytgleoebogikooaa.Dk.kPg_at (i := page.toNat) hrhpages (by assumption)
    refine load_one 14 (by kernel_rfl : atP _ _ _ 14 true = some (Op.load 113 (tmpO 21), 113, some 22, Rg.sq (bitL 3 1) 15)) (n := 1) (by kernel_rfl) rfl ?_
    intro L w1 hs
    refine ⟨.v (Value.slice Aslots_el1 h.pages[page.toNat].slots.length cslots_el1), cell_at 1 (cellsH_ext (hs.old 0 rfl) hc_el1) rfl, ?_⟩
    clear hs
    refine gm [1, 2, 3, 6, 15, 16, 24] 2 (St.mk (Rg.sq (bitL 3 1) 17) [kCd (bitL 3 5), KI.code [true, true]] [(1, vI page), (2, vI slot), (3, vR 0 0), (6, vR 1 0), (15, vL false), (16, vI slot), (24, vI (IntKind.i64.wrap ((↑h.pages[page.toNat].slots.length : Int) - 1)))] [LB.mk [cS (some a_1) h.pages.length chpages] 62, LB.mk [cI 0, cI 0, cI 0, cI 0, cF 0, cS none 0 0, cI 0, cI 0, cF 0, cS none 0 0] 70]) ?_
    try simp only [fl_ne_self, fl_eq_self, fl_eq0, fl_ne0, fl_gt0, fl_lt0, nf_1, nf_2, nf_7]
    refine call_pure true (by kernel_rfl : atC _ _ _ true = some (55, [vI slot, vI 0, vI ((↑h.pages[page.toNat].slots.length : Int) - 1)], some 25, Rg.sq (bitL 3 1) 18)) (by kernel_rfl) (.one (.bo (decide (0 ≤ slot) && decide (slot ≤ (↑h.pages[page.toNat].slots.length : Int) - 1)))) (fun L w1 hs => (Go.Proofs.Ytgleoebogikooaa.Dk.within_ok (slot) (0) ((↑h.pages[page.toNat].slots.length : Int) - 1) w1)) ?_
    refine gm [1, 2, 3, 6, 27] 2 (St.mk Rg.no [kCd (bitL 3 5), KI.code [true, true]] [(1, vI page), (2, vI slot), (3, vR 0 0), (6, vR 1 0), (27, vB !(decide (0 ≤ slot) && decide (slot ≤ (↑h.pages[page.toNat].slots.length : Int) - 1)))] [LB.mk [cS (some a_1) h.pages.length chpages] 62, LB.mk [cI 0, cI 0, cI 0, cI 0, cF 0, cS none 0 0, cI 0, cI 0, cF 0, cS none 0 0] 70]) ?_
    refine spl 27 (!(decide (0 ≤ slot) && decide (slot ≤ (↑h.pages[page.toNat].slots.length : Int) - 1))) ?_ ?_
    · intro hb4
      try simp only [sbb] at hb4
      (exfalso; omega)
    · intro hb4
      try simp only [sbb] at hb4
      refine gm [2, 6, 30, 31] 2 (St.mk (Rg.sq (bitL 3 3) 3) [kCd (bitL 3 7)] [(2, vI slot), (6, vR 1 0), (30, vS (some a_1) h.pages.length chpages), (31, vI page)] [LB.mk [cS (some a_1) h.pages.length chpages] 62, LB.mk [cI 0, cI 0, cI 0, cI 0, cF 0, cS none 0 0, cI 0, cI 0, cF 0, cS none 0 0] 70]) ?_
      refine index_at 3 (by kernel_rfl : atP _ _ _ 3 false = some (Op.indexAddr 60 (tmpO 30) (tmpO 31), 0, some 32, Rg.sq (bitL 3 3) 4)) (ni := page.toNat) (sz := 2) (by kernel_rfl) rfl rfl (by omega) (by assumption) (fun L w1 hs => rd_some (i := page.toNat) (rdRow_ext (hs.old 0 rfl) hrhpages) (by assumption)) ?_
      intro a_2 ha_2
      cases ha_2
      refine gm [2, 6, 33] 2 (St.mk (Rg.sq (bitL 3 3) 5) [kCd (bitL 3 7)] [(2, vI slot), (6, vR 1 0), (33, vP ((a_1.add (page.toNat * 2)).add 1))] [LB.mk [cS (some a_1) h.pages.length chpages] 62, LB.mk [cI 0, cI 0, cI 0, cI 0, cF 0, cS none 0 0, cI 0, cI 0, cF 0, cS none 0 0] 70]) ?_
      obtain ⟨Aslots_el2, cslots_el2, hr1_el2, hc_el2⟩ := Go.Proofs.Ytgleoebogikooaa.Dk.kPg_at (i := page.toNat) hrhpages (by assumption)
      refine load_one 5 (by kernel_rfl : atP _ _ _ 5 true = some (Op.load 113 (tmpO 33), 113, some 34, Rg.sq (bitL 3 3) 6)) (n := 1) (by kernel_rfl) rfl ?_
      intro L w1 hs
      refine ⟨.v (Value.slice Aslots_el2 h.pages[page.toNat].slots.length cslots_el2), cell_at 1 (cellsH_ext (hs.old 0 rfl) hc_el2) rfl, ?_⟩
      clear hs
      refine gm [6, 34, 35] 2 (St.mk (Rg.sq (bitL 3 3) 7) [kCd (bitL 3 7)] [(6, vR 1 0), (34, vS Aslots_el2 h.pages[page.toNat].slots.length cslots_el2), (35, vI slot)] [LB.mk [cS (some a_1) h.pages.length chpages] 62, LB.mk [cI 0, cI 0, cI 0, cI 0, cF 0, cS none 0 0, cI 0, cI 0, cF 0, cS none 0 0] 70]) ?_
      refine index_at 7 (by kernel_rfl : atP _ _ _ 7 false = some (Op.indexAddr 113 (tmpO 34) (tmpO 35), 0, some 36, Rg.sq (bitL 3 3) 8)) (ni := slot.toNat) (sz := 1) (by kernel_rfl) rfl rfl (by omega) (by assumption) (fun L w1 hs => rd_some (i := slot.toNat) (rdRow_ext (hs.old 0 rfl) hr1_el2) (by assumption)) ?_
      intro a_2 ha_2
      cases ha_2
      refine gm [6, 36] 2 (St.mk (Rg.sq (bitL 3 3) 8) [kCd (bitL 3 7)] [(6, vR 1 0), (36, vP (a_2.add (slot.toNat * 1)))] [LB.mk [cS (some a_1) h.pages.length chpages] 62, LB.mk [cI 0, cI 0, cI 0, cI 0, cF 0, cS none 0 0, cI 0, cI 0, cF 0, cS none 0 0] 70]) ?_
      obtain ⟨Ai_r1, ci_r1, hce_r1, hrw_r1⟩ := rd_row (i := slot.toNat) hr1_el2 (by assumption)
      refine load_one 8 (by kernel_rfl : atP _ _ _ 8 true = some (Op.load 40 (tmpO 36), 40, some 37, Rg.sq (bitL 3 3) 9)) (n := 1) (by kernel_rfl) rfl ?_
      intro L w1 hs
      refine ⟨.v (.slice Ai_r1 ((h.pages[page.toNat].slots)[slot.toNat]'(by assumption)).length ci_r1), cellH_ext (hs.old 0 rfl) hce_r1, ?_⟩
      clear hs
      refine gm [6, 37] 2 (St.mk (Rg.sq (bitL 3 3) 9) [kCd (bitL 3 7)] [(6, vR 1 0), (37, vS Ai_r1 h.pages[page.toNat].slots[slot.toNat].length ci_r1)] [LB.mk [cS (some a_1) h.pages.length chpages] 62, LB.mk [cI 0, cI 0, cI 0, cI 0, cF 0, cS none 0 0, cI 0, cI 0, cF 0, cS none 0 0] 70]) ?_
      refine call_at true (by kernel_rfl : atC _ _ _ true = some (83, [vS Ai_r1 h.pages[page.toNat].slots[slot.toNat].length ci_r1], some 38, Rg.sq (bitL 3 3) 10)) (by kernel_rfl) (fun L w1 hs => (Go.Proofs.Ytgleoebogikooaa.Dk.iTupRead_ok (h.pages[page.toNat].slots[slot.toNat]) (Value.slice Ai_r1 h.pages[page.toNat].slots[slot.toNat].length ci_r1) w1 (rdRow_ext (hs.old 0 rfl) hrw_r1) (by assumption) (by assumption)).mono ?_)
      rintro e_ w2_ ⟨bokey_1, Aokey_1, cokey_1, bovalue_1, Aovalue_1, covalue_1, rfl, hf_, hq1, hq2, hq3, hq4⟩
      refine ⟨.one (.v (Value.tuple #[Value.agg #[Value.int IntKind.i64 ((tupR h.pages[page.toNat].slots[slot.toNat]).getD zTu0).xmin, Value.int IntKind.i64 ((tupR h.pages[page.toNat].slots[slot.toNat]).getD zTu0).xmax, Value.int IntKind.i64 ((tupR h.pages[page.toNat].slots[slot.toNat]).getD zTu0).key.kind, Value.int IntKind.i64 ((tupR h.pages[page.toNat].slots[slot.toNat]).getD zTu0).key.n, Value.float FloatKind.f64 bokey_1, Value.slice Aokey_1 ((tupR h.pages[page.toNat].slots[slot.toNat]).getD zTu0).key.t.length cokey_1, Value.int IntKind.i64 ((tupR h.pages[page.toNat].slots[slot.toNat]).getD zTu0).value.kind, Value.int IntKind.i64 ((tupR h.pages[page.toNat].slots[slot.toNat]).getD zTu0).value.n, Value.float FloatKind.f64 bovalue_1, Value.slice Aovalue_1 ((tupR h.pages[page.toNat].slots[slot.toNat]).getD zTu0).value.t.length covalue_1], Value.bool (tupR h.pages[page.toNat].slots[slot.toNat]).isSome])), _, _, rfl, fun _ => hf_.1.block, hs.fresh hf_, ?_⟩
      clear hs hf_
      refine gm [6, 7] 2 (St.mk Rg.no [kCd (bitL 3 7)] [(6, vR 1 0), (7, vB (tupR h.pages[page.toNat].slots[slot.toNat]).isSome)] [LB.mk [cS (some a_1) h.pages.length chpages] 62, LB.mk [cI (Option.getD (tupR h.pages[page.toNat].slots[slot.toNat]) zTu0).xmin, cI (Option.getD (tupR h.pages[page.toNat].slots[slot.toNat]) zTu0).xmax, cI (Option.getD (tupR h.pages[page.toNat].slots[slot.toNat]) zTu0).key.kind, cI (Option.getD (tupR h.pages[page.toNat].slots[slot.toNat]) zTu0).key.n, cF bokey_1, cS Aokey_1 (Option.getD (tupR h.pages[page.toNat].slots[slot.toNat]) zTu0).key.t.length cokey_1, cI (Option.getD (tupR h.pages[page.toNat].slots[slot.toNat]) zTu0).value.kind, cI (Option.getD (tupR h.pages[page.toNat].slots[slot.toNat]) zTu0).value.n, cF bovalue_1, cS Aovalue_1 (Option.getD (tupR h.pages[page.toNat].slots[slot.toNat]) zTu0).value.t.length covalue_1] 70]) ?_
      try simp only [fl_ne_self, fl_eq_self, fl_eq0, fl_ne0, fl_gt0, fl_lt0, hq1, hq2, hq3, hq4, nf_1, nf_2, nf_7]
      refine rtk [SV.agg [cI (Option.getD o zTu0).xmin, cI (Option.getD o zTu0).xmax, cI (Option.getD o zTu0).key.kind, cI (Option.getD o zTu0).key.n, cF bokey_1, cS Aokey_1 (Option.getD o zTu0).key.t.length cokey_1, cI (Option.getD o zTu0).value.kind, cI (Option.getD o zTu0).value.n, cF bovalue_1, cS Aovalue_1 (Option.getD o zTu0).value.t.length covalue_1], vB o.isSome] ?_
      intro L w1 hs
      (cases o <;> exact ⟨_, _, _, _, _, _, by rw [hin, ho]; rfl, by rw [hin, ho]; exact hs.out (As := [_, _]), hq1, by rw [hin]; exact hq2, hq3, by rw [hin]; exact hq4⟩)

theorem iHAt_ok (h : He) (csh : List Value) (page : Int) (slot : Int) (w : World) (hh : kHe.rd w.heap h csh) (hl : h.pages.length ≤ 1048576) (hb : byHe h) :
    Calls Try.prog 44 #[.agg csh.toArray, .int .i64 page, .int .i64 slot] w fun e w' => ∃ (bokey_f : Nat) (Aokey_t : Option Addr) (cokey_t : Nat) (bovalue_f : Nat) (Aovalue_t : Option Addr) (covalue_t : Nat), e = .returned (.tuple #[.agg #[.int .i64 ((hpAt h page slot).getD zTu0).xmin, .int .i64 ((hpAt h page slot).getD zTu0).xmax, .int .i64 ((hpAt h page slot).getD zTu0).key.kind, .int .i64 ((hpAt h page slot).getD zTu0).key.n, .float .f64 bokey_f, .slice Aokey_t (((hpAt h page slot).getD zTu0).key.t).length cokey_t, .int .i64 ((hpAt h page slot).getD zTu0).value.kind, .int .i64 ((hpAt h page slot).getD zTu0).value.n, .float .f64 bovalue_f, .slice Aovalue_t (((hpAt h page slot).getD zTu0).value.t).length covalue_t], .bool (hpAt h page slot).isSome]) ∧ Fresh w w' [rowA 5 kU8 (((hpAt h page slot).getD zTu0).value.t) (.slice Aovalue_t (((hpAt h page slot).getD zTu0).value.t).length covalue_t), rowA 5 kU8 (((hpAt h page slot).getD zTu0).key.t) (.slice Aokey_t (((hpAt h page slot).getD zTu0).key.t).length cokey_t)] ∧ bokey_f < 18446744073709551616 ∧ canonF bokey_f = ((hpAt h page slot).getD zTu0).key.f ∧ bovalue_f < 18446744073709551616 ∧ canonF bovalue_f = ((hpAt h page slot).getD zTu0).value.f := by
  obtain ⟨Ahpages, chpages, rfl, hrhpages⟩ := kHe_inv hh
  refine enter (args := [.agg [.v (.slice Ahpages h.pages.length chpages)], .one (.v (.int .i64 page)), .one (.v (.int .i64 slot))]) Try.func44 (c := bodyOf Try.f44) rfl rfl (start_LOK _) (start_old w) ?_
  by_cases hok : ¬ heapOk h = true
  · have hno : hpAt h page slot = none := hpAt_bad fun hc => hok hc.1
    have nf_9 : (!heapOk h) = true := by rw [Bool.not_eq_true] at hok; rw [hok]; rfl
    refine gm [1, 2, 3, 6, 8] 2 (St.mk (Rg.sq (bitL 3 1) 1) [kCd (bitL 3 5), KI.code [true, true]] [(1, vI page), (2, vI slot), (3, vR 0 0), (6, vR 1 0), (8, SV.agg [cS Ahpages h.pages.length chpages])] [LB.mk [cS Ahpages h.pages.length chpages] 62, LB.mk [cI 0, cI 0, cI 0, cI 0, cF 0, cS none 0 0, cI 0, cI 0, cF 0, cS none 0 0] 70]) ?_
    refine call_pure true (by kernel_rfl : atC _ _ _ true = some (39, [SV.agg [cS Ahpages h.pages.length chpages]], some 9, Rg.sq (bitL 3 1) 2)) (by kernel_rfl) (.one (.bo (heapOk h))) (fun L w1 hs => (Go.Proofs.Ytgleoebogikooaa.Dk.iHeapOk_ok (h) ([Value.slice Ahpages h.pages.length chpages]) w1 (Go.Proofs.Ytgleoebogikooaa.Dk.kHe_mk (rdRow_ext (hs.old 0 rfl) hrhpages)) (by assumption) (by assumption))) ?_
    refine gm [1, 2, 3, 6, 10] 2 (St.mk Rg.no [kCd (bitL 3 5), KI.code [true, true]] [(1, vI page), (2, vI slot), (3, vR 0 0), (6, vR 1 0), (10, vB !heapOk h)] [LB.mk [cS Ahpages h.pages.length chpages] 62, LB.mk [cI 0, cI 0, cI 0, cI 0, cF 0, cS none 0 0, cI 0, cI 0, cF 0, cS none 0 0] 70]) ?_
    try simp only [fl_ne_self, fl_eq_self, fl_eq0, fl_ne0, fl_gt0, fl_lt0, nf_9]
    refine gm [1, 2, 3, 6, 10] 2 (St.mk Rg.no [kCd (bitL 3 5), KI.code [true, true]] [(1, vI page), (2, vI slot), (3, vR 0 0), (6, vR 1 0), (10, vB true)] [LB.mk [cS Ahpages h.pages.length chpages] 62, LB.mk [cI 0, cI 0, cI 0, cI 0, cF 0, cS none 0 0, cI 0, cI 0, cF 0, cS none 0 0] 70]) ?_
    refine ltk 10 true ?_
    refine gm [6, 7] 2 (St.mk Rg.no [kCd (bitL 5 21), KI.code [true, true]] [(6, vR 1 0), (7, vL false)] [LB.mk [cS Ahpages h.pages.length chpages] 62, LB.mk [cI 0, cI 0, cI 0, cI 0, cF 0, cS none 0 0, cI 0, cI 0, cF 0, cS none 0 0] 70]) ?_
    refine rtk [SV.agg [cI 0, cI 0, cI 0, cI 0, cF 0, cS none 0 0, cI 0, cI 0, cF 0, cS none 0 0], vL false] ?_
    intro L w1 hs
    exact ⟨0, none, 0, 0, none, 0, by rw [hno]; rfl, by rw [hno]; exact ((hs.triv (A := rowA 5 kU8 ([] : List Int) (.slice none 0 0)) rowA_nil).triv (A := rowA 5 kU8 ([] : List Int) (.slice none 0 0)) rowA_nil).out (As := [_, _]), by decide, by rw [hno]; rfl, by decide, by rw [hno]; rfl⟩
  replace hok : heapOk h = true := Classical.not_not.1 hok
  have nf_9 : (!heapOk h) = false := by rw [hok]; rfl
  obtain ⟨o, ho⟩ : ∃ o, hpAt h page slot = o := ⟨_, rfl⟩
  have nf_7 := ho
  refine gm [1, 2, 3, 6, 8] 2 (St.mk (Rg.sq (bitL 3 1) 1) [kCd (bitL 3 5), KI.code [true, true]] [(1, vI page), (2, vI slot), (3, vR 0 0), (6, vR 1 0), (8, SV.agg [cS Ahpages h.pages.length chpages])] [LB.mk [cS Ahpages h.pages.length chpages] 62, LB.mk [cI 0, cI 0, cI 0, cI 0, cF 0, cS none 0 0, cI 0, cI 0, cF 0, cS none 0 0] 70]) ?_
  try simp only [fl_ne_self, fl_eq_self, fl_eq0, fl_ne0, fl_gt0, fl_lt0, nf_9, nf_7]
  refine call_pure true (by kernel_rfl : atC _ _ _ true = some (39, [SV.agg [cS Ahpages h.pages.length chpages]], some 9, Rg.sq (bitL 3 1) 2)) (by kernel_rfl) (.one (.bo (heapOk h))) (fun L w1 hs => (Go.Proofs.Ytgleoebogikooaa.Dk.iHeapOk_ok (h) ([Value.slice Ahpages h.pages.length chpages]) w1 (Go.Proofs.Ytgleoebogikooaa.Dk.kHe_mk (rdRow_ext (hs.old 0 rfl) hrhpages)) (by assumption) (by assumption))) ?_
  refine gm [1, 2, 3, 6, 10] 2 (St.mk Rg.no [kCd (bitL 3 5), KI.code [true, true]] [(1, vI page), (2, vI slot), (3, vR 0 0), (6, vR 1 0), (10, vB !heapOk h)] [LB.mk [cS Ahpages h.pages.length chpages] 62, LB.mk [cI 0, cI 0, cI 0, cI 0, cF 0, cS none 0 0, cI 0, cI 0, cF 0, cS none 0 0] 70]) ?_
  try simp only [fl_ne_self, fl_eq_self, fl_eq0, fl_ne0, fl_gt0, fl_lt0, nf_9, nf_7]
  refine gm [1, 2, 3, 6, 10] 2 (St.mk Rg.no [kCd (bitL 3 5), KI.code [true, true]] [(1, vI page), (2, vI slot), (3, vR 0 0), (6, vR 1 0), (10, vB false)] [LB.mk [cS Ahpages h.pages.length chpages] 62, LB.mk [cI 0, cI 0, cI 0, cI 0, cF 0, cS none 0 0, cI 0, cI 0, cF 0, cS none 0 0] 70]) ?_
  refine ltk 10 false ?_
  refine gm [6, 12, 13, 14] 2 (St.mk (Rg.sq (bitL 3 3) 3) [kCd (bitL 3 7)] [(6, vR 1 0), (12, SV.agg [cS Ahpages h.pages.length chpages]), (13, vI page), (14, vI slot)] [LB.mk [cS Ahpages h.pages.length chpages] 62, LB.mk [cI 0, cI 0, cI 0, cI 0, cF 0, cS none 0 0, cI 0, cI 0, cF 0, cS none 0 0] 70]) ?_
  refine call_at true (by kernel_rfl : atC _ _ _ true = some (88, [SV.agg [cS Ahpages h.pages.length chpages], vI page, vI slot], some 15, Rg.sq (bitL 3 3) 4)) (by kernel_rfl) (fun L w1 hs => (Go.Proofs.Ytgleoebogikooaa.Dk.iHAt0_ok (h) ([Value.slice Ahpages h.pages.length chpages]) (page) (slot) w1 (Go.Proofs.Ytgleoebogikooaa.Dk.kHe_mk (rdRow_ext (hs.old 0 rfl) hrhpages)) (by assumption) (by assumption) (by assumption)).mono ?_)
  rintro e_ w2_ ⟨bokey_1, Aokey_1, cokey_1, bovalue_1, Aovalue_1, covalue_1, rfl, hf_, hq1, hq2, hq3, hq4⟩
  refine ⟨.one (.v (Value.tuple #[Value.agg #[Value.int IntKind.i64 ((hpAt h page slot).getD zTu0).xmin, Value.int IntKind.i64 ((hpAt h page slot).getD zTu0).xmax, Value.int IntKind.i64 ((hpAt h page slot).getD zTu0).key.kind, Value.int IntKind.i64 ((hpAt h page slot).getD zTu0).key.n, Value.float FloatKind.f64 bokey_1, Value.slice Aokey_1 ((hpAt h page slot).getD zTu0).key.t.length cokey_1, Value.int IntKind.i64 ((hpAt h page slot).getD zTu0).value.kind, Value.int IntKind.i64 ((hpAt h page slot).getD zTu0).value.n, Value.float FloatKind.f64 bovalue_1, Value.slice Aovalue_1 ((hpAt h page slot).getD zTu0).value.t.length covalue_1], Value.bool (hpAt h page slot).isSome])), _, _, rfl, fun _ => hf_.1.block, hs.fresh hf_, ?_⟩
  clear hs hf_
  refine gm [6, 7] 2 (St.mk Rg.no [kCd (bitL 3 7)] [(6, vR 1 0), (7, vB (hpAt h page slot).isSome)] [LB.mk [cS Ahpages h.pages.length chpages] 62, LB.mk [cI (Option.getD (hpAt h page slot) zTu0).xmin, cI (Option.getD (hpAt h page slot) zTu0).xmax, cI (Option.getD (hpAt h page slot) zTu0).key.kind, cI (Option.getD (hpAt h page slot) zTu0).key.n, cF bokey_1, cS Aokey_1 (Option.getD (hpAt h page slot) zTu0).key.t.length cokey_1, cI (Option.getD (hpAt h page slot) zTu0).value.kind, cI (Option.getD (hpAt h page slot) zTu0).value.n, cF bovalue_1, cS Aovalue_1 (Option.getD (hpAt h page slot) zTu0).value.t.length covalue_1] 70]) ?_
  try simp only [fl_ne_self, fl_eq_self, fl_eq0, fl_ne0, fl_gt0, fl_lt0, hq1, hq2, hq3, hq4, nf_9, nf_7]
  refine rtk [SV.agg [cI (Option.getD o zTu0).xmin, cI (Option.getD o zTu0).xmax, cI (Option.getD o zTu0).key.kind, cI (Option.getD o zTu0).key.n, cF bokey_1, cS Aokey_1 (Option.getD o zTu0).key.t.length cokey_1, cI (Option.getD o zTu0).value.kind, cI (Option.getD o zTu0).value.n, cF bovalue_1, cS Aovalue_1 (Option.getD o zTu0).value.t.length covalue_1], vB o.isSome] ?_
  intro L w1 hs
  (cases o <;> exact ⟨_, _, _, _, _, _, by rfl, hs.out (As := [_, _]), hq1, by rw [← ho]; exact hq2, hq3, by rw [← ho]; exact hq4⟩)

theorem sHAt_ok (h : He) (csh : List Value) (page : Int) (slot : Int) (w : World) (hh : kHe.rd w.heap h csh) (hl : h.pages.length ≤ 1048576) (hb : byHe h) :
    Calls Try.prog 43 #[.agg csh.toArray, .int .i64 page, .int .i64 slot] w fun e w' => ∃ (bokey_f : Nat) (Aokey_t : Option Addr) (cokey_t : Nat) (bovalue_f : Nat) (Aovalue_t : Option Addr) (covalue_t : Nat), e = .returned (.tuple #[.agg #[.int .i64 ((hpAt h page slot).getD zTu0).xmin, .int .i64 ((hpAt h page slot).getD zTu0).xmax, .int .i64 ((hpAt h page slot).getD zTu0).key.kind, .int .i64 ((hpAt h page slot).getD zTu0).key.n, .float .f64 bokey_f, .slice Aokey_t (((hpAt h page slot).getD zTu0).key.t).length cokey_t, .int .i64 ((hpAt h page slot).getD zTu0).value.kind, .int .i64 ((hpAt h page slot).getD zTu0).value.n, .float .f64 bovalue_f, .slice Aovalue_t (((hpAt h page slot).getD zTu0).value.t).length covalue_t], .bool (hpAt h page slot).isSome]) ∧ Fresh w w' [rowA 5 kU8 (((hpAt h page slot).getD zTu0).value.t) (.slice Aovalue_t (((hpAt h page slot).getD zTu0).value.t).length covalue_t), rowA 5 kU8 (((hpAt h page slot).getD zTu0).key.t) (.slice Aokey_t (((hpAt h page slot).getD zTu0).key.t).length cokey_t)] ∧ bokey_f < 18446744073709551616 ∧ canonF bokey_f = ((hpAt h page slot).getD zTu0).key.f ∧ bovalue_f < 18446744073709551616 ∧ canonF bovalue_f = ((hpAt h page slot).getD zTu0).value.f := by
  obtain ⟨Ahpages, chpages, rfl, hrhpages⟩ := kHe_inv hh
  refine enter (args := [.agg [.v (.slice Ahpages h.pages.length chpages)], .one (.v (.int .i64 page)), .one (.v (.int .i64 slot))]) Try.func43 (c := bodyOf Try.f43) rfl rfl (start_LOK _) (start_old w) ?_
  have rows_on : True := trivial
  have nf_1 : IntKind.i64.wrap ((h.pages.length : Int) - 1) = (h.pages.length : Int) - 1 := by rw [IntKind.wrap_i64]; omega
  by_cases hok : ¬ heapOk h = true
  · have hno : hpAt h page slot = none := hpAt_bad fun hc => hok hc.1
    have nf_9 : (!heapOk h) = true := by rw [Bool.not_eq_true] at hok; rw [hok]; rfl
    refine gm [1, 2, 3, 6, 8] 2 (St.mk (Rg.sq (bitL 3 1) 1) [kCd (bitL 3 5), KI.code [true, true]] [(1, vI page), (2, vI slot), (3, vR 0 0), (6, vR 1 0), (8, SV.agg [cS Ahpages h.pages.length chpages])] [LB.mk [cS Ahpages h.pages.length chpages] 62, LB.mk [cI 0, cI 0, cI 0, cI 0, cF 0, cS none 0 0, cI 0, cI 0, cF 0, cS none 0 0] 70]) ?_
    refine call_pure true (by kernel_rfl : atC _ _ _ true = some (37, [SV.agg [cS Ahpages h.pages.length chpages]], some 9, Rg.sq (bitL 3 1) 2)) (by kernel_rfl) (.one (.bo (heapOk h))) (fun L w1 hs => (Go.Proofs.Ytgleoebogikooaa.Dk.sHeapOk_ok (h) ([Value.slice Ahpages h.pages.length chpages]) w1 (Go.Proofs.Ytgleoebogikooaa.Dk.kHe_mk (rdRow_ext (hs.old 0 rfl) hrhpages)) (by assumption) (by assumption))) ?_
    refine gm [1, 2, 3, 6, 11] 2 (St.mk (Rg.sq (bitL 3 1) 4) [kCd (bitL 3 5), KI.code [true, true]] [(1, vI page), (2, vI slot), (3, vR 0 0), (6, vR 1 0), (11, vB !heapOk h)] [LB.mk [cS Ahpages h.pages.length chpages] 62, LB.mk [cI 0, cI 0, cI 0, cI 0, cF 0, cS none 0 0, cI 0, cI 0, cF 0, cS none 0 0] 70]) ?_
    try simp only [fl_ne_self, fl_eq_self, fl_eq0, fl_ne0, fl_gt0, fl_lt0, nf_1, nf_9]
    refine gm [1, 2, 3, 6, 11] 2 (St.mk (Rg.sq (bitL 3 1) 4) [kCd (bitL 3 5), KI.code [true, true]] [(1, vI page), (2, vI slot), (3, vR 0 0), (6, vR 1 0), (11, vB true)] [LB.mk [cS Ahpages h.pages.length chpages] 62, LB.mk [cI 0, cI 0, cI 0, cI 0, cF 0, cS none 0 0, cI 0, cI 0, cF 0, cS none 0 0] 70]) ?_
    refine ltk 11 true ?_
    refine gm [6, 7] 2 (St.mk Rg.no [kCd (bitL 5 21), KI.code [true, true]] [(6, vR 1 0), (7, vL false)] [LB.mk [cS Ahpages h.pages.length chpages] 62, LB.mk [cI 0, cI 0, cI 0, cI 0, cF 0, cS none 0 0, cI 0, cI 0, cF 0, cS none 0 0] 70]) ?_
    refine rtk [SV.agg [cI 0, cI 0, cI 0, cI 0, cF 0, cS none 0 0, cI 0, cI 0, cF 0, cS none 0 0], vL false] ?_
    intro L w1 hs
    exact ⟨0, none, 0, 0, none, 0, by rw [hno]; rfl, by rw [hno]; exact ((hs.triv (A := rowA 5 kU8 ([] : List Int) (.slice none 0 0)) rowA_nil).triv (A := rowA 5 kU8 ([] : List Int) (.slice none 0 0)) rowA_nil).out (As := [_, _]), by decide, by rw [hno]; rfl, by decide, by rw [hno]; rfl⟩
  replace hok : heapOk h = true := Classical.not_not.1 hok
  have nf_9 : (!heapOk h) = false := by rw [hok]; rfl
  by_cases hpg : ¬ (0 ≤ page ∧ page < (h.pages.length : Int))
  · have hno : hpAt h page slot = none := hpAt_bad fun hc => hpg hc.2
    refine gm [1, 2, 3, 6, 8] 2 (St.mk (Rg.sq (bitL 3 1) 1) [kCd (bitL 3 5), KI.code [true, true]] [(1, vI page), (2, vI slot), (3, vR 0 0), (6, vR 1 0), (8, SV.agg [cS Ahpages h.pages.length chpages])] [LB.mk [cS Ahpages h.pages.length chpages] 62, LB.mk [cI 0, cI 0, cI 0, cI 0, cF 0, cS none 0 0, cI 0, cI 0, cF 0, cS none 0 0] 70]) ?_
    refine call_pure true (by kernel_rfl : atC _ _ _ true = some (37, [SV.agg [cS Ahpages h.pages.length chpages]], some 9, Rg.sq (bitL 3 1) 2)) (by kernel_rfl) (.one (.bo (heapOk h))) (fun L w1 hs => (Go.Proofs.Ytgleoebogikooaa.Dk.sHeapOk_ok (h) ([Value.slice Ahpages h.pages.length chpages]) w1 (Go.Proofs.Ytgleoebogikooaa.Dk.kHe_mk (rdRow_ext (hs.old 0 rfl) hrhpages)) (by assumption) (by assumption))) ?_
    refine gm [1, 2, 3, 6, 11] 2 (St.mk (Rg.sq (bitL 3 1) 4) [kCd (bitL 3 5), KI.code [true, true]] [(1, vI page), (2, vI slot), (3, vR 0 0), (6, vR 1 0), (11, vB !heapOk h)] [LB.mk [cS Ahpages h.pages.length chpages] 62, LB.mk [cI 0, cI 0, cI 0, cI 0, cF 0, cS none 0 0, cI 0, cI 0, cF 0, cS none 0 0] 70]) ?_
    try simp only [fl_ne_self, fl_eq_self, fl_eq0, fl_ne0, fl_gt0, fl_lt0, nf_1, nf_9]
    refine gm [1, 2, 3, 6, 11] 2 (St.mk (Rg.sq (bitL 3 1) 4) [kCd (bitL 3 5), KI.code [true, true]] [(1, vI page), (2, vI slot), (3, vR 0 0), (6, vR 1 0), (11, vB false)] [LB.mk [cS Ahpages h.pages.length chpages] 62, LB.mk [cI 0, cI 0, cI 0, cI 0, cF 0, cS none 0 0, cI 0, cI 0, cF 0, cS none 0 0] 70]) ?_
    refine ltk 11 false ?_
    refine gm [1, 2, 3, 6, 11, 12, 16] 2 (St.mk (Rg.sq (bitL 3 1) 9) [kCd (bitL 3 5), KI.code [true, true]] [(1, vI page), (2, vI slot), (3, vR 0 0), (6, vR 1 0), (11, vL false), (12, vI page), (16, vI (IntKind.i64.wrap ((↑h.pages.length : Int) - 1)))] [LB.mk [cS Ahpages h.pages.length chpages] 62, LB.mk [cI 0, cI 0, cI 0, cI 0, cF 0, cS none 0 0, cI 0, cI 0, cF 0, cS none 0 0] 70]) ?_
    try simp only [fl_ne_self, fl_eq_self, fl_eq0, fl_ne0, fl_gt0, fl_lt0, nf_1, nf_9]
    refine call_pure true (by kernel_rfl : atC _ _ _ true = some (85, [vI page, vI 0, vI ((↑h.pages.length : Int) - 1)], some 17, Rg.sq (bitL 3 1) 10)) (by kernel_rfl) (.one (.bo (decide (0 ≤ page) && decide (page ≤ (↑h.pages.length : Int) - 1)))) (fun L w1 hs => (Go.Proofs.Ytgleoebogikooaa.Dk.l5in_ok (page) (0) ((↑h.pages.length : Int) - 1) w1)) ?_
    refine gm [1, 2, 3, 6, 20] 2 (St.mk (Rg.sq (bitL 3 1) 13) [kCd (bitL 3 5), KI.code [true, true]] [(1, vI page), (2, vI slot), (3, vR 0 0), (6, vR 1 0), (20, vB !(decide (0 ≤ page) && decide (page ≤ (↑h.pages.length : Int) - 1)))] [LB.mk [cS Ahpages h.pages.length chpages] 62, LB.mk [cI 0, cI 0, cI 0, cI 0, cF 0, cS none 0 0, cI 0, cI 0, cF 0, cS none 0 0] 70]) ?_
    refine spl 20 (!(decide (0 ≤ page) && decide (page ≤ (↑h.pages.length : Int) - 1))) ?_ ?_
    · intro hb1
      try simp only [sbb] at hb1
      refine gm [6, 7] 2 (St.mk Rg.no [kCd (bitL 5 21), KI.code [true, true]] [(6, vR 1 0), (7, vL false)] [LB.mk [cS Ahpages h.pages.length chpages] 62, LB.mk [cI 0, cI 0, cI 0, cI 0, cF 0, cS none 0 0, cI 0, cI 0, cF 0, cS none 0 0] 70]) ?_
      refine rtk [SV.agg [cI 0, cI 0, cI 0, cI 0, cF 0, cS none 0 0, cI 0, cI 0, cF 0, cS none 0 0], vL false] ?_
      intro L w1 hs
      exact ⟨0, none, 0, 0, none, 0, by rw [hno]; rfl, by rw [hno]; exact ((hs.triv (A := rowA 5 kU8 ([] : List Int) (.slice none 0 0)) rowA_nil).triv (A := rowA 5 kU8 ([] : List Int) (.slice none 0 0)) rowA_nil).out (As := [_, _]), by decide, by rw [hno]; rfl, by decide, by rw [hno]; rfl⟩
    · intro hb1
      try simp only [sbb] at hb1
      (exfalso; omega)
  replace hpg : 0 ≤ page ∧ page < (h.pages.length : Int) := Classical.not_not.1 hpg
  have hpt : page.toNat < h.pages.length := by omega
  obtain ⟨hp1, hp2⟩ := hb _ (List.getElem_mem hpt)
  have nf_2 : IntKind.i64.wrap ((h.pages[page.toNat].slots.length : Int) - 1) = (h.pages[page.toNat].slots.length : Int) - 1 := by rw [IntKind.wrap_i64]; omega
  by_cases hsl : ¬ (0 ≤ slot ∧ slot < (h.pages[page.toNat].slots.length : Int))
  · have hno : hpAt h page slot = none := hpAt_out hpt hsl
    refine gm [1, 2, 3, 6, 8] 2 (St.mk (Rg.sq (bitL 3 1) 1) [kCd (bitL 3 5), KI.code [true, true]] [(1, vI page), (2, vI slot), (3, vR 0 0), (6, vR 1 0), (8, SV.agg [cS Ahpages h.pages.length chpages])] [LB.mk [cS Ahpages h.pages.length chpages] 62, LB.mk [cI 0, cI 0, cI 0, cI 0, cF 0, cS none 0 0, cI 0, cI 0, cF 0, cS none 0 0] 70]) ?_
    refine call_pure true (by kernel_rfl : atC _ _ _ true = some (37, [SV.agg [cS Ahpages h.pages.length chpages]], some 9, Rg.sq (bitL 3 1) 2)) (by kernel_rfl) (.one (.bo (heapOk h))) (fun L w1 hs => (Go.Proofs.Ytgleoebogikooaa.Dk.sHeapOk_ok (h) ([Value.slice Ahpages h.pages.length chpages]) w1 (Go.Proofs.Ytgleoebogikooaa.Dk.kHe_mk (rdRow_ext (hs.old 0 rfl) hrhpages)) (by assumption) (by assumption))) ?_
    refine gm [1, 2, 3, 6, 11] 2 (St.mk (Rg.sq (bitL 3 1) 4) [kCd (bitL 3 5), KI.code [true, true]] [(1, vI page), (2, vI slot), (3, vR 0 0), (6, vR 1 0), (11, vB !heapOk h)] [LB.mk [cS Ahpages h.pages.length chpages] 62, LB.mk [cI 0, cI 0, cI 0, cI 0, cF 0, cS none 0 0, cI 0, cI 0, cF 0, cS none 0 0] 70]) ?_
    try simp only [fl_ne_self, fl_eq_self, fl_eq0, fl_ne0, fl_gt0, fl_lt0, nf_1, nf_9, nf_2]
    refine gm [1, 2, 3, 6, 11] 2 (St.mk (Rg.sq (bitL 3 1) 4) [kCd (bitL 3 5), KI.code [true, true]] [(1, vI page), (2, vI slot), (3, vR 0 0), (6, vR 1 0), (11, vB false)] [LB.mk [cS Ahpages h.pages.length chpages] 62, LB.mk [cI 0, cI 0, cI 0, cI 0, cF 0, cS none 0 0, cI 0, cI 0, cF 0, cS none 0 0] 70]) ?_
    refine ltk 11 false ?_
    refine gm [1, 2, 3, 6, 11, 12, 16] 2 (St.mk (Rg.sq (bitL 3 1) 9) [kCd (bitL 3 5), KI.code [true, true]] [(1, vI page), (2, vI slot), (3, vR 0 0), (6, vR 1 0), (11, vL false), (12, vI page), (16, vI (IntKind.i64.wrap ((↑h.pages.length : Int) - 1)))] [LB.mk [cS Ahpages h.pages.length chpages] 62, LB.mk [cI 0, cI 0, cI 0, cI 0, cF 0, cS none 0 0, cI 0, cI 0, cF 0, cS none 0 0] 70]) ?_
    try simp only [fl_ne_self, fl_eq_self, fl_eq0, fl_ne0, fl_gt0, fl_lt0, nf_1, nf_9, nf_2]
    refine call_pure true (by kernel_rfl : atC _ _ _ true = some (85, [vI page, vI 0, vI ((↑h.pages.length : Int) - 1)], some 17, Rg.sq (bitL 3 1) 10)) (by kernel_rfl) (.one (.bo (decide (0 ≤ page) && decide (page ≤ (↑h.pages.length : Int) - 1)))) (fun L w1 hs => (Go.Proofs.Ytgleoebogikooaa.Dk.l5in_ok (page) (0) ((↑h.pages.length : Int) - 1) w1)) ?_
    refine gm [1, 2, 3, 6, 20] 2 (St.mk (Rg.sq (bitL 3 1) 13) [kCd (bitL 3 5), KI.code [true, true]] [(1, vI page), (2, vI slot), (3, vR 0 0), (6, vR 1 0), (20, vB !(decide (0 ≤ page) && decide (page ≤ (↑h.pages.length : Int) - 1)))] [LB.mk [cS Ahpages h.pages.length chpages] 62, LB.mk [cI 0, cI 0, cI 0, cI 0, cF 0, cS none 0 0, cI 0, cI 0, cF 0, cS none 0 0] 70]) ?_
    refine spl 20 (!(decide (0 ≤ page) && decide (page ≤ (↑h.pages.length : Int) - 1))) ?_ ?_
    · intro hb1
      try simp only [sbb] at hb1
      (exfalso; omega)
    · intro hb1
      try simp only [sbb] at hb1
      refine gm [1, 2, 3, 6, 20, 21, 23, 24] 2 (St.mk (Rg.sq (bitL 3 1) 17) [kCd (bitL 3 5), KI.code [true, true]] [(1, vI page), (2, vI slot), (3, vR 0 0), (6, vR 1 0), (20, vL false), (21, vI slot), (23, vS Ahpages h.pages.length chpages), (24, vI page)] [LB.mk [cS Ahpages h.pages.length chpages] 62, LB.mk [cI 0, cI 0, cI 0, cI 0, cF 0, cS none 0 0, cI 0, cI 0, cF 0, cS none 0 0] 70]) ?_
      refine index_at 17 (by kernel_rfl : atP _ _ _ 17 false = some (Op.indexAddr 60 (tmpO 23) (tmpO 24), 0, some 25, Rg.sq (bitL 3 1) 18)) (ni := page.toNat) (sz := 2) (by kernel_rfl) rfl rfl (by omega) (by assumption) (fun L w1 hs => rd_some (i := page.toNat) (rdRow_ext (hs.old 0 rfl) hrhpages) (by assumption)) ?_
      intro a_1 ha_1
      cases ha_1
      refine gm [1, 2, 3, 6, 20, 21, 26] 2 (St.mk (Rg.sq (bitL 3 1) 19) [kCd (bitL 3 5), KI.code [true, true]] [(1, vI page), (2, vI slot), (3, vR 0 0), (6, vR 1 0), (20, vL false), (21, vI slot), (26, vP ((a_1.add (page.toNat * 2)).add 1))] [LB.mk [cS (some a_1) h.pages.length chpages] 62, LB.mk [cI 0, cI 0, cI 0, cI 0, cF 0, cS none 0 0, cI 0, cI 0, cF 0, cS none 0 0] 70]) ?_
      obtain ⟨Aslots_el1, cslots_el1, hr1_el1, hc_el1⟩ := Go.Proofs.Ytgleoebogikooaa.Dk.kPg_at (i := page.toNat) hrhpages (by assumption)
      refine load_one 19 (by kernel_rfl : atP _ _ _ 19 true = some (Op.load 113 (tmpO 26), 113, some 27, Rg.sq (bitL 3 1) 20)) (n := 1) (by kernel_rfl) rfl ?_
      intro L w1 hs
      refine ⟨.v (Value.slice Aslots_el1 h.pages[page.toNat].slots.length cslots_el1), cell_at 1 (cellsH_ext (hs.old 0 rfl) hc_el1) rfl, ?_⟩
      clear hs
      refine gm [1, 2, 3, 6, 20, 21, 29] 2 (St.mk (Rg.sq (bitL 3 1) 22) [kCd (bitL 3 5), KI.code [true, true]] [(1, vI page), (2, vI slot), (3, vR 0 0), (6, vR 1 0), (20, vL false), (21, vI slot), (29, vI (IntKind.i64.wrap ((↑h.pages[page.toNat].slots.length : Int) - 1)))] [LB.mk [cS (some a_1) h.pages.length chpages] 62, LB.mk [cI 0, cI 0, cI 0, cI 0, cF 0, cS none 0 0, cI 0, cI 0, cF 0, cS none 0 0] 70]) ?_
      try simp only [fl_ne_self, fl_eq_self, fl_eq0, fl_ne0, fl_gt0, fl_lt0, nf_1, nf_9, nf_2]
      refine call_pure true (by kernel_rfl : atC _ _ _ true = some (85, [vI slot, vI 0, vI ((↑h.pages[page.toNat].slots.length : Int) - 1)], some 30, Rg.sq (bitL 3 1) 23)) (by kernel_rfl) (.one (.bo (decide (0 ≤ slot) && decide (slot ≤ (↑h.pages[page.toNat].slots.length : Int) - 1)))) (fun L w1 hs => (Go.Proofs.Ytgleoebogikooaa.Dk.l5in_ok (slot) (0) ((↑h.pages[page.toNat].slots.length : Int) - 1) w1)) ?_
      refine gm [1, 2, 3, 6, 32] 2 (St.mk Rg.no [kCd (bitL 3 5), KI.code [true, true]] [(1, vI page), (2, vI slot), (3, vR 0 0), (6, vR 1 0), (32, vB !(decide (0 ≤ slot) && decide (slot ≤ (↑h.pages[page.toNat].slots.length : Int) - 1)))] [LB.mk [cS (some a_1) h.pages.length chpages] 62, LB.mk [cI 0, cI 0, cI 0, cI 0, cF 0, cS none 0 0, cI 0, cI 0, cF 0, cS none 0 0] 70]) ?_
      refine spl 32 (!(decide (0 ≤ slot) && decide (slot ≤ (↑h.pages[page.toNat].slots.length : Int) - 1))) ?_ ?_
      · intro hb2
        try simp only [sbb] at hb2
        refine gm [6, 7] 2 (St.mk Rg.no [kCd (bitL 5 21), KI.code [true, true]] [(6, vR 1 0), (7, vL false)] [LB.mk [cS (some a_1) h.pages.length chpages] 62, LB.mk [cI 0, cI 0, cI 0, cI 0, cF 0, cS none 0 0, cI 0, cI 0, cF 0, cS none 0 0] 70]) ?_
        refine rtk [SV.agg [cI 0, cI 0, cI 0, cI 0, cF 0, cS none 0 0, cI 0, cI 0, cF 0, cS none 0 0], vL false] ?_
        intro L w1 hs
        exact ⟨0, none, 0, 0, none, 0, by rw [hno]; rfl, by rw [hno]; exact ((hs.triv (A := rowA 5 kU8 ([] : List Int) (.slice none 0 0)) rowA_nil).triv (A := rowA 5 kU8 ([] : List Int) (.slice none 0 0)) rowA_nil).out (As := [_, _]), by decide, by rw [hno]; rfl, by decide, by rw [hno]; rfl⟩
      · intro hb2
        try simp only [sbb] at hb2
        (exfalso; omega)
  replace hsl : 0 ≤ slot ∧ slot < (h.pages[page.toNat].slots.length : Int) := Classical.not_not.1 hsl
  have hst : slot.toNat < h.pages[page.toNat].slots.length := by omega
  obtain ⟨hb1, hb2⟩ := hp2 _ (List.getElem_mem hst)
  have hin := hpAt_in ⟨hok, hpg⟩ hpt hsl.1 hst
  obtain ⟨o, ho⟩ : ∃ o, tupR h.pages[page.toNat].slots[slot.toNat] = o := ⟨_, rfl⟩
  have nf_7 := ho
  refine gm [1, 2, 3, 6, 8] 2 (St.mk (Rg.sq (bitL 3 1) 1) [kCd (bitL 3 5), KI.code [true, true]] [(1, vI page), (2, vI slot), (3, vR 0 0), (6, vR 1 0), (8, SV.agg [cS Ahpages h.pages.length chpages])] [LB.mk [cS Ahpages h.pages.length chpages] 62, LB.mk [cI 0, cI 0, cI 0, cI 0, cF 0, cS none 0 0, cI 0, cI 0, cF 0, cS none 0 0] 70]) ?_
  refine call_pure true (by kernel_rfl : atC _ _ _ true = some (37, [SV.agg [cS Ahpages h.pages.length chpages]], some 9, Rg.sq (bitL 3 1) 2)) (by kernel_rfl) (.one (.bo (heapOk h))) (fun L w1 hs => (Go.Proofs.Ytgleoebogikooaa.Dk.sHeapOk_ok (h) ([Value.slice Ahpages h.pages.length chpages]) w1 (Go.Proofs.Ytgleoebogikooaa.Dk.kHe_mk (rdRow_ext (hs.old 0 rfl) hrhpages)) (by assumption) (by assumption))) ?_
  refine gm [1, 2, 3, 6, 11] 2 (St.mk (Rg.sq (bitL 3 1) 4) [kCd (bitL 3 5), KI.code [true, true]] [(1, vI page), (2, vI slot), (3, vR 0 0), (6, vR 1 0), (11, vB !heapOk h)] [LB.mk [cS Ahpages h.pages.length chpages] 62, LB.mk [cI 0, cI 0, cI 0, cI 0, cF 0, cS none 0 0, cI 0, cI 0, cF 0, cS none 0 0] 70]) ?_
  try simp only [fl_ne_self, fl_eq_self, fl_eq0, fl_ne0, fl_gt0, fl_lt0, nf_1, nf_9, nf_2, nf_7]
  refine gm [1, 2, 3, 6, 11] 2 (St.mk (Rg.sq (bitL 3 1) 4) [kCd (bitL 3 5), KI.code [true, true]] [(1, vI page), (2, vI slot), (3, vR 0 0), (6, vR 1 0), (11, vB false)] [LB.mk [cS Ahpages h.pages.length chpages] 62, LB.mk [cI 0, cI 0, cI 0, cI 0, cF 0, cS none 0 0, cI 0, cI 0, cF 0, cS none 0 0] 70]) ?_
  refine ltk 11 false ?_
  refine gm [1, 2, 3, 6, 11, 12, 16] 2 (St.mk (Rg.sq (bitL 3 1) 9) [kCd (bitL 3 5), KI.code [true, true]] [(1, vI page), (2, vI slot), (3, vR 0 0), (6, vR 1 0), (11, vL false), (12, vI page), (16, vI (IntKind.i64.wrap ((↑h.pages.length : Int) - 1)))] [LB.mk [cS Ahpages h.pages.length chpages] 62, LB.mk [cI 0, cI 0, cI 0, cI 0, cF 0, cS none 0 0, cI 0, cI 0, cF 0, cS none 0 0] 70]) ?_
  try simp only [fl_ne_self, fl_eq_self, fl_eq0, fl_ne0, fl_gt0, fl_lt0, nf_1, nf_9, nf_2, nf_7]
  refine call_pure true (by kernel_rfl : atC _ _ _ true = some (85, [vI page, vI 0, vI ((↑h.pages.length : Int) - 1)], some 17, Rg.sq (bitL 3 1) 10)) (by kernel_rfl) (.one (.bo (decide (0 ≤ page) && decide (page ≤ (↑h.pages.length : Int) - 1)))) (fun L w1 hs => (Go.Proofs.Ytgleoebogikooaa.Dk.l5in_ok (page) (0) ((↑h.pages.length : Int) - 1) w1)) ?_
  refine gm [1, 2, 3, 6, 20] 2 (St.mk (Rg.sq (bitL 3 1) 13) [kCd (bitL 3 5), KI.code [true, true]] [(1, vI page), (2, vI slot), (3, vR 0 0), (6, vR 1 0), (20, vB !(decide (0 ≤ page) && decide (page ≤ (↑h.pages.length : Int) - 1)))] [LB.mk [cS Ahpages h.pages.length chpages] 62, LB.mk [cI 0, cI 0, cI 0, cI 0, cF 0, cS none 0 0, cI 0, cI 0, cF 0, cS none 0 0] 70]) ?_
  refine spl 20 (!(decide (0 ≤ page) && decide (page ≤ (↑h.pages.length : Int) - 1))) ?_ ?_
  · intro hb3
    try simp only [sbb] at hb3
    (exfalso; omega)
  · intro hb3
    try simp only [sbb] at hb3
    refine gm [1, 2, 3, 6, 20, 21, 23, 24] 2 (St.mk (Rg.sq (bitL 3 1) 17) [kCd (bitL 3 5), KI.code [true, true]] [(1, vI page), (2, vI slot), (3, vR 0 0), (6, vR 1 0), (20, vL false), (21, vI slot), (23, vS Ahpages h.pages.length chpages), (24, vI page)] [LB.mk [cS Ahpages h.pages.length chpages] 62, LB.mk [cI 0, cI 0, cI 0, cI 0, cF 0, cS none 0 0, cI 0, cI 0, cF 0, cS none 0 0] 70]) ?_
    refine index_at 17 (by kernel_rfl : atP _ _ _ 17 false = some (Op.indexAddr 60 (tmpO 23) (tmpO 24), 0, some 25, Rg.sq (bitL 3 1) 18)) (ni := page.toNat) (sz := 2) (by kernel_rfl) rfl rfl (by omega) (by assumption) (fun L w1 hs => rd_some (i := page.toNat) (rdRow_ext (hs.old 0 rfl) hrhpages) (by assumption)) ?_
    intro a_1 ha_1
    cases ha_1
    refine gm [1, 2, 3, 6, 20, 21, 26] 2 (St.mk (Rg.sq (bitL 3 1) 19) [kCd (bitL 3 5), KI.code [true, true]] [(1, vI page), (2, vI slot), (3, vR 0 0), (6, vR 1 0), (20, vL false), (21, vI slot), (26, vP ((a_1.add (page.toNat * 2)).add 1))] [LB.mk [cS (some a_1) h.pages.length chpages] 62, LB.mk [cI 0, cI 0, cI 0, cI 0, cF 0, cS none 0 0, cI 0, cI 0, cF 0, cS none 0 0] 70]) ?_
    obtain ⟨Aslots_el1, cslots_el1, hr1_el1, hc_el1⟩ := Go.Proofs.Ytgleoebogikooaa.Dk.kPg_at (i := page.toNat) hrhpages (by assumption)
    refine load_one 19 (by kernel_rfl : atP _ _ _ 19 true = some (Op.load 113 (tmpO 26), 113, some 27, Rg.sq (bitL 3 1) 20)) (n := 1) (by kernel_rfl) rfl ?_
    intro L w1 hs
    refine ⟨.v (Value.slice Aslots_el1 h.pages[page.toNat].slots.length cslots_el1), cell_at 1 (cellsH_ext (hs.old 0 rfl) hc_el1) rfl, ?_⟩
    clear hs
    refine gm [1, 2, 3, 6, 20, 21, 29] 2 (St.mk (Rg.sq (bitL 3 1) 22) [kCd (bitL 3 5), KI.code [true, true]] [(1, vI page), (2, vI slot), (3, vR 0 0), (6, vR 1 0), (20, vL false), (21, vI slot), (29, vI (IntKind.i64.wrap ((↑h.pages[page.toNat].slots.length : Int) - 1)))] [LB.mk [cS (some a_1) h.pages.length chpages] 62, LB.mk [cI 0, cI 0, cI 0, cI 0, cF 0, cS none 0 0, cI 0, cI 0, cF 0, cS none 0 0] 70]) ?_
    try simp only [fl_ne_self, fl_eq_self, fl_eq0, fl_ne0, fl_gt0, fl_lt0, nf_1, nf_9, nf_2, nf_7]
    refine call_pure true (by kernel_rfl : atC _ _ _ true = some (85, [vI slot, vI 0, vI ((↑h.pages[page.toNat].slots.length : Int) - 1)], some 30, Rg.sq (bitL 3 1) 23)) (by kernel_rfl) (.one (.bo (decide (0 ≤ slot) && decide (slot ≤ (↑h.pages[page.toNat].slots.length : Int) - 1)))) (fun L w1 hs => (Go.Proofs.Ytgleoebogikooaa.Dk.l5in_ok (slot) (0) ((↑h.pages[page.toNat].slots.length : Int) - 1) w1)) ?_
    refine gm [1, 2, 3, 6, 32] 2 (St.mk Rg.no [kCd (bitL 3 5), KI.code [true, true]] [(1, vI page), (2, vI slot), (3, vR 0 0), (6, vR 1 0), (32, vB !(decide (0 ≤ slot) && decide (slot ≤ (↑h.pages[page.toNat].slots.length : Int) - 1)))] [LB.mk [cS (some a_1) h.pages.length chpages] 62, LB.mk [cI 0, cI 0, cI 0, cI 0, cF 0, cS none 0 0, cI 0, cI 0, cF 0, cS none 0 0] 70]) ?_
    refine spl 32 (!(decide (0 ≤ slot) && decide (slot ≤ (↑h.pages[page.toNat].slots.length : Int) - 1))) ?_ ?_
    · intro hb4
      try simp only [sbb] at hb4
      (exfalso; omega)
    · intro hb4
      try simp only [sbb] at hb4
      refine gm [2, 6, 35, 36] 2 (St.mk (Rg.sq (bitL 3 3) 3) [kCd (bitL 3 7)] [(2, vI slot), (6, vR 1 0), (35, vS (some a_1) h.pages.length chpages), (36, vI page)] [LB.mk [cS (some a_1) h.pages.length chpages] 62, LB.mk [cI 0, cI 0, cI 0, cI 0, cF 0, cS none 0 0, cI 0, cI 0, cF 0, cS none 0 0] 70]) ?_
      refine index_at 3 (by kernel_rfl : atP _ _ _ 3 false = some (Op.indexAddr 60 (tmpO 35) (tmpO 36), 0, some 37, Rg.sq (bitL 3 3) 4)) (ni := page.toNat) (sz := 2) (by kernel_rfl) rfl rfl (by omega) (by assumption) (fun L w1 hs => rd_some (i := page.toNat) (rdRow_ext (hs.old 0 rfl) hrhpages) (by assumption)) ?_
      intro a_2 ha_2
      cases ha_2
      refine gm [2, 6, 38] 2 (St.mk (Rg.sq (bitL 3 3) 5) [kCd (bitL 3 7)] [(2, vI slot), (6, vR 1 0), (38, vP ((a_1.add (page.toNat * 2)).add 1))] [LB.mk [cS (some a_1) h.pages.length chpages] 62, LB.mk [cI 0, cI 0, cI 0, cI 0, cF 0, cS none 0 0, cI 0, cI 0, cF 0, cS none 0 0] 70]) ?_
      obtain ⟨Aslots_el2, cslots_el2, hr1_el2, hc_el2⟩ := Go.Proofs.Ytgleoebogikooaa.Dk.kPg_at (i := page.toNat) hrhpages (by assumption)
      refine load_one 5 (by kernel_rfl : atP _ _ _ 5 true = some (Op.load 113 (tmpO 38), 113, some 39, Rg.sq (bitL 3 3) 6)) (n := 1) (by kernel_rfl) rfl ?_
      intro L w1 hs
      refine ⟨.v (Value.slice Aslots_el2 h.pages[page.toNat].slots.length cslots_el2), cell_at 1 (cellsH_ext (hs.old 0 rfl) hc_el2) rfl, ?_⟩
      clear hs
      refine gm [6, 39, 40] 2 (St.mk (Rg.sq (bitL 3 3) 7) [kCd (bitL 3 7)] [(6, vR 1 0), (39, vS Aslots_el2 h.pages[page.toNat].slots.length cslots_el2), (40, vI slot)] [LB.mk [cS (some a_1) h.pages.length chpages] 62, LB.mk [cI 0, cI 0, cI 0, cI 0, cF 0, cS none 0 0, cI 0, cI 0, cF 0, cS none 0 0] 70]) ?_
      refine index_at 7 (by kernel_rfl : atP _ _ _ 7 false = some (Op.indexAddr 113 (tmpO 39) (tmpO 40), 0, some 41, Rg.sq (bitL 3 3) 8)) (ni := slot.toNat) (sz := 1) (by kernel_rfl) rfl rfl (by omega) (by assumption) (fun L w1 hs => rd_some (i := slot.toNat) (rdRow_ext (hs.old 0 rfl) hr1_el2) (by assumption)) ?_
      intro a_2 ha_2
      cases ha_2
      refine gm [6, 41] 2 (St.mk (Rg.sq (bitL 3 3) 8) [kCd (bitL 3 7)] [(6, vR 1 0), (41, vP (a_2.add (slot.toNat * 1)))] [LB.mk [cS (some a_1) h.pages.length chpages] 62, LB.mk [cI 0, cI 0, cI 0, cI 0, cF 0, cS none 0 0, cI 0, cI 0, cF 0, cS none 0 0] 70]) ?_
      obtain ⟨Ai_r1, ci_r1, hce_r1, hrw_r1⟩ := rd_row (i := slot.toNat) hr1_el2 (by assumption)
      refine load_one 8 (by kernel_rfl : atP _ _ _ 8 true = some (Op.load 40 (tmpO 41), 40, some 42, Rg.sq (bitL 3 3) 9)) (n := 1) (by kernel_rfl) rfl ?_
      intro L w1 hs
      refine ⟨.v (.slice Ai_r1 ((h.pages[page.toNat].slots)[slot.toNat]'(by assumption)).length ci_r1), cellH_ext (hs.old 0 rfl) hce_r1, ?_⟩
      clear hs
      refine gm [6, 42] 2 (St.mk (Rg.sq (bitL 3 3) 9) [kCd (bitL 3 7)] [(6, vR 1 0), (42, vS Ai_r1 h.pages[page.toNat].slots[slot.toNat].length ci_r1)] [LB.mk [cS (some a_1) h.pages.length chpages] 62, LB.mk [cI 0, cI 0, cI 0, cI 0, cF 0, cS none 0 0, cI 0, cI 0, cF 0, cS none 0 0] 70]) ?_
      refine call_at true (by kernel_rfl : atC _ _ _ true = some (76, [vS Ai_r1 h.pages[page.toNat].slots[slot.toNat].length ci_r1], some 43, Rg.sq (bitL 3 3) 10)) (by kernel_rfl) (fun L w1 hs => (Go.Proofs.Ytgleoebogikooaa.Dk.sTupRead_ok (h.pages[page.toNat].slots[slot.toNat]) (Value.slice Ai_r1 h.pages[page.toNat].slots[slot.toNat].length ci_r1) w1 (rdRow_ext (hs.old 0 rfl) hrw_r1) (by assumption) (by assumption)).mono ?_)
      rintro e_ w2_ ⟨bokey_1, Aokey_1, cokey_1, bovalue_1, Aovalue_1, covalue_1, rfl, hf_, hq1, hq2, hq3, hq4⟩
      refine ⟨.one (.v (Value.tuple #[Value.agg #[Value.int IntKind.i64 ((tupR h.pages[page.toNat].slots[slot.toNat]).getD zTu0).xmin, Value.int IntKind.i64 ((tupR h.pages[page.toNat].slots[slot.toNat]).getD zTu0).xmax, Value.int IntKind.i64 ((tupR h.pages[page.toNat].slots[slot.toNat]).getD zTu0).key.kind, Value.int IntKind.i64 ((tupR h.pages[page.toNat].slots[slot.toNat]).getD zTu0).key.n, Value.float FloatKind.f64 bokey_1, Value.slice Aokey_1 ((tupR h.pages[page.toNat].slots[slot.toNat]).getD zTu0).key.t.length cokey_1, Value.int IntKind.i64 ((tupR h.pages[page.toNat].slots[slot.toNat]).getD zTu0).value.kind, Value.int IntKind.i64 ((tupR h.pages[page.toNat].slots[slot.toNat]).getD zTu0).value.n, Value.float FloatKind.f64 bovalue_1, Value.slice Aovalue_1 ((tupR h.pages[page.toNat].slots[slot.toNat]).getD zTu0).value.t.length covalue_1], Value.bool (tupR h.pages[page.toNat].slots[slot.toNat]).isSome])), _, _, rfl, fun _ => hf_.1.block, hs.fresh hf_, ?_⟩
      clear hs hf_
      refine gm [6, 7] 2 (St.mk Rg.no [kCd (bitL 3 7)] [(6, vR 1 0), (7, vB (tupR h.pages[page.toNat].slots[slot.toNat]).isSome)] [LB.mk [cS (some a_1) h.pages.length chpages] 62, LB.mk [cI (Option.getD (tupR h.pages[page.toNat].slots[slot.toNat]) zTu0).xmin, cI (Option.getD (tupR h.pages[page.toNat].slots[slot.toNat]) zTu0).xmax, cI (Option.getD (tupR h.pages[page.toNat].slots[slot.toNat]) zTu0).key.kind, cI (Option.getD (tupR h.pages[page.toNat].slots[slot.toNat]) zTu0).key.n, cF bokey_1, cS Aokey_1 (Option.getD (tupR h.pages[page.toNat].slots[slot.toNat]) zTu0).key.t.length cokey_1, cI (Option.getD (tupR h.pages[page.toNat].slots[slot.toNat]) zTu0).value.kind, cI (Option.getD (tupR h.pages[page.toNat].slots[slot.toNat]) zTu0).value.n, cF bovalue_1, cS Aovalue_1 (Option.getD (tupR h.pages[page.toNat].slots[slot.toNat]) zTu0).value.t.length covalue_1] 70]) ?_
      try simp only [fl_ne_self, fl_eq_self, fl_eq0, fl_ne0, fl_gt0, fl_lt0, hq1, hq2, hq3, hq4, nf_1, nf_9, nf_2, nf_7]
      refine rtk [SV.agg [cI (Option.getD o zTu0).xmin, cI (Option.getD o zTu0).xmax, cI (Option.getD o zTu0).key.kind, cI (Option.getD o zTu0).key.n, cF bokey_1, cS Aokey_1 (Option.getD o zTu0).key.t.length cokey_1, cI (Option.getD o zTu0).value.kind, cI (Option.getD o zTu0).value.n, cF bovalue_1, cS Aovalue_1 (Option.getD o zTu0).value.t.length covalue_1], vB o.isSome] ?_
      intro L w1 hs
      (cases o <;> exact ⟨_, _, _, _, _, _, by rw [hin, ho]; rfl, by rw [hin, ho]; exact hs.out (As := [_, _]), hq1, by rw [hin]; exact hq2, hq3, by rw [hin]; exact hq4⟩)

theorem iHAtX_ok (h : He) (csh : List Value) (page slot : Int) (w : World) (x : Tu) (ok : Bool) (hh : kHe.rd w.heap h csh) (hl : h.pages.length ≤ 1048576) (hb : byHe h) (hx : (hpAt h page slot).getD zTu0 = x) (ho : (hpAt h page slot).isSome = ok) :
    Calls Try.prog 44 #[.agg csh.toArray, .int .i64 page, .int .i64 slot] w fun e w' => ∃ (bokey_f : Nat) (Aokey_t : Option Addr) (cokey_t : Nat) (bovalue_f : Nat) (Aovalue_t : Option Addr) (covalue_t : Nat), e = .returned (.tuple #[.agg #[.int .i64 x.xmin, .int .i64 x.xmax, .int .i64 x.key.kind, .int .i64 x.key.n, .float .f64 bokey_f, .slice Aokey_t x.key.t.length cokey_t, .int .i64 x.value.kind, .int .i64 x.value.n, .float .f64 bovalue_f, .slice Aovalue_t x.value.t.length covalue_t], .bool ok]) ∧ Fresh w w' [rowA 5 kU8 x.value.t (.slice Aovalue_t x.value.t.length covalue_t), rowA 5 kU8 x.key.t (.slice Aokey_t x.key.t.length cokey_t)] ∧ bokey_f < 18446744073709551616 ∧ canonF bokey_f = x.key.f ∧ bovalue_f < 18446744073709551616 ∧ canonF bovalue_f = x.value.f := by
  subst hx ho
  exact iHAt_ok h csh page slot w hh hl hb
theorem sHAtX_ok (h : He) (csh : List Value) (page slot : Int) (w : World) (x : Tu) (ok : Bool) (hh : kHe.rd w.heap h csh) (hl : h.pages.length ≤ 1048576) (hb : byHe h) (hx : (hpAt h page slot).getD zTu0 = x) (ho : (hpAt h page slot).isSome = ok) :
    Calls Try.prog 43 #[.agg csh.toArray, .int .i64 page, .int .i64 slot] w fun e w' => ∃ (bokey_f : Nat) (Aokey_t : Option Addr) (cokey_t : Nat) (bovalue_f : Nat) (Aovalue_t : Option Addr) (covalue_t : Nat), e = .returned (.tuple #[.agg #[.int .i64 x.xmin, .int .i64 x.xmax, .int .i64 x.key.kind, .int .i64 x.key.n, .float .f64 bokey_f, .slice Aokey_t x.key.t.length cokey_t, .int .i64 x.value.kind, .int .i64 x.value.n, .float .f64 bovalue_f, .slice Aovalue_t x.value.t.length covalue_t], .bool ok]) ∧ Fresh w w' [rowA 5 kU8 x.value.t (.slice Aovalue_t x.value.t.length covalue_t), rowA 5 kU8 x.key.t (.slice Aokey_t x.key.t.length cokey_t)] ∧ bokey_f < 18446744073709551616 ∧ canonF bokey_f = x.key.f ∧ bovalue_f < 18446744073709551616 ∧ canonF bovalue_f = x.value.f := by
  subst hx ho
  exact sHAt_ok h csh page slot w hh hl hb
end Go.Proofs.Ytgleoebogikooaa.Dk
