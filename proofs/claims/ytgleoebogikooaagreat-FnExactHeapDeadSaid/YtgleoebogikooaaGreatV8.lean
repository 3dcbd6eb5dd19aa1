/- Walks of functions of the program: what each call returns and what it leaves in memory. Conditions: those that each theorem names. -/
import Derived.Test.YtgleoebogikooaaGreatV7
namespace Go.Proofs.YtgleoebogikooaaGreat.Dk
set_option linter.unusedVariables false
set_option linter.unusedSimpArgs false
open Go.Proofs.YtgleoebogikooaaGreat.Sx Go.Proofs Go.RowKit
set_option maxRecDepth 100000
set_option maxHeartbeats 1000000
structure Pg where
 lsn : Int
 slots : List (List Int)
def kPg : Kn Pg := kVia (fun x => (x.lsn, x.slots)) (kPair kI64 (kRow 44 (kRow 5 kU8)))
theorem kPg_inv {h : Hp} {x : Pg} {cs : List Value} (hx : kPg.rd h x cs) : ∃ (Aslots : Option Addr) (cslots : Nat), cs = [.int .i64 x.lsn, .slice Aslots x.slots.length cslots] ∧ rdRow (kRow 5 kU8) h x.slots (.slice Aslots x.slots.length cslots) := by
 obtain ⟨p0, q0, rfl, r0, r1⟩ := hx
 obtain rfl := r0
 obtain ⟨v1, rfl, hrslots⟩ := r1
 obtain ⟨Aslots, cslots, rfl⟩ := rdRow_form hrslots
 exact ⟨Aslots, cslots, rfl, hrslots⟩
theorem kPg_mk {h : Hp} {lsn : Int} {slots : List (List Int)} {vslots : Value} (hrslots : rdRow (kRow 5 kU8) h slots vslots) : kPg.rd h ⟨lsn, slots⟩ [.int .i64 lsn, vslots] :=
 ⟨[.int .i64 lsn], [vslots], rfl, rfl, ⟨_, rfl, hrslots⟩⟩
theorem kPg_at {h : Hp} {xs : List Pg} {a : Addr} {n c : Nat} (hr : rdRow kPg h xs (.slice (some a) n c)) {i : Nat} (hi : i < xs.length) : ∃ (Aslots : Option Addr) (cslots : Nat), rdRow (kRow 5 kU8) h (xs[i].slots) (.slice Aslots (xs[i].slots).length cslots) ∧ ∀ j u, [.int .i64 xs[i].lsn, .slice Aslots (xs[i].slots).length cslots][j]? = some u → cellH h ((a.add (i * 2)).add j) = some u := by
 obtain ⟨cs, h1, h2⟩ := rd_at hr (List.getElem?_eq_getElem hi)
 obtain ⟨Aslots, cslots, rfl, hrslots⟩ := kPg_inv h1
 exact ⟨Aslots, cslots, hrslots, h2⟩
def pgU (p : Pg) : Int := if (0 ≤ p.lsn ∧ p.lsn ≤ 1000000) ∧ p.slots.length ≤ 16 ∧ (∀ s ∈ p.slots, s.length ≤ 92) ∧ 1 + p.slots.length + (flat p.slots).length ≤ 240 ∧ ¬ (0 < p.slots.length ∧ (p.slots.getD (p.slots.length - 1) []).length = 0) then ((1 + p.slots.length + (flat p.slots).length : Nat) : Int) else -1
theorem pgU_lsn {p : Pg} (h : ¬ (0 ≤ p.lsn ∧ p.lsn ≤ 1000000)) : pgU p = -1 := if_neg fun hc => h hc.1
theorem pgU_many {p : Pg} (h : 16 < p.slots.length) : pgU p = -1 := if_neg fun hc => by have := hc.2.1; omega
theorem pgU_big {p : Pg} {i : Nat} (hi : i < p.slots.length) (h : 92 < p.slots[i].length) : pgU p = -1 := if_neg fun hc => by have := hc.2.2.1 _ (List.getElem_mem hi); omega
theorem pgU_full {p : Pg} (h : 240 < 1 + p.slots.length + (flat p.slots).length) : pgU p = -1 := if_neg fun hc => by have := hc.2.2.2.1; omega
theorem pgU_last {p : Pg} (hi : p.slots.length - 1 < p.slots.length) (h : p.slots[p.slots.length - 1].length = 0) : pgU p = -1 := if_neg fun hc => hc.2.2.2.2 ⟨by omega, by simp only [List.getD_eq_getElem?_getD, List.getElem?_eq_getElem hi, Option.getD_some]; exact h⟩
theorem pgU_yes {p : Pg} (h1 : 0 ≤ p.lsn ∧ p.lsn ≤ 1000000) (h2 : p.slots.length ≤ 16) (h3 : ∀ s ∈ p.slots, s.length ≤ 92) (h4 : 1 + p.slots.length + (flat p.slots).length ≤ 240) (h5 : p.slots.length = 0 ∨ ∃ hi : p.slots.length - 1 < p.slots.length, p.slots[p.slots.length - 1].length ≠ 0) : pgU p = ((1 + p.slots.length + (flat p.slots).length : Nat) : Int) := if_pos ⟨h1, h2, h3, h4, fun hc => by
 rcases h5 with h5 | ⟨hi, h5⟩
 ·omega
 ·have h6 := hc.2
  simp only [List.getD_eq_getElem?_getD, List.getElem?_eq_getElem hi, Option.getD_some] at h6
  exact h5 h6⟩
theorem flat_bnd {l : List (List Int)} (h : ∀ s ∈ l, s.length ≤ 92) : (flat l).length ≤ 92 * l.length := by
 induction l with
 | nil => simp [flat]
 | cons a r ih =>
  have h1 := h a List.mem_cons_self
  have h2 := ih fun s hs => h s (List.mem_cons_of_mem _ hs)
  simp only [flat, List.flatten_cons, List.length_append, List.length_cons] at h2 ⊢
  omega
theorem all_take {l : List (List Int)} {i : Nat} (h : ∀ s ∈ l.take i, s.length ≤ 92) (hi : i < l.length) (hx : l[i].length ≤ 92) : ∀ s ∈ l.take (i + 1), s.length ≤ 92 := fun s hs => by
 rw [List.take_succ_eq_append_getElem hi] at hs
 rcases List.mem_append.1 hs with hs | hs
 ·exact h s hs
 ·rw [List.mem_singleton.1 hs]; exact hx
theorem iPgUsed_ok (p : Pg) (csp : List Value) (w : World) (hp : kPg.rd w.heap p csp) (hl : p.slots.length ≤ 1048576) :
  Calls Tryz.prog 87 #[.agg csp.toArray] w fun e w' => e = .returned (.int .i64 (pgU p)) ∧ Below w.heap.size w w' := by
 obtain ⟨Apslots, cpslots, rfl, hrpslots⟩ := kPg_inv hp
 refine enter (args := [.agg [.v (.int .i64 p.lsn), .v (.slice Apslots p.slots.length cpslots)]]) Tryz.func87 (c := bodyOf Tryz.f87) rfl rfl (start_LOK _) (start_old w) ?_
 have nf_1 : IntKind.i64.wrap ((1 : Int) + (p.slots.length : Int)) = ((1 + p.slots.length : Nat) : Int) := by rw [IntKind.wrap_i64]; omega
 by_cases hb : ¬ ((0 ≤ p.lsn ∧ p.lsn ≤ 1000000) ∧ p.slots.length ≤ 16)
 ·refine gn 1 (Rg.sq (bitL 3 1) 2) [kCd (bitL 3 5), KI.code [true, true]] [(1, vR 0 0), (7, vI p.lsn)] [LB.mk [cI p.lsn, cS Apslots p.slots.length cpslots] 58] ?_
  refine cpk 94 [vI p.lsn, vI 0, vI 1000000] (some 8) (Rg.sq (bitL 3 1) 3) (.one (.bo (decide (0 ≤ p.lsn) && decide (p.lsn ≤ 1000000)))) (fun L w1 hs => (within_ok (p.lsn) (0) (1000000) w1)) ?_
  refine gn 1 (Rg.sq (bitL 3 1) 5) [kCd (bitL 3 5), KI.code [true, true]] [(1, vR 0 0), (10, vB !(decide (0 ≤ p.lsn) && decide (p.lsn ≤ 1000000)))] [LB.mk [cI p.lsn, cS Apslots p.slots.length cpslots] 58] ?_
  refine spl 10 (!(decide (0 ≤ p.lsn) && decide (p.lsn ≤ 1000000))) ?_ ?_
  ·intro hb1
   try simp only [sbb] at hb1
   refine gn 0 Rg.no [kCd (bitL 5 21), KI.code [true, true]] [(2, vI (-1))] [] ?_
   refine rtk [vI (-1)] ?_
   intro L w1 hs
   exact ⟨retI (pgU_lsn (by omega)).symm, hs.out0⟩
  ·intro hb1
   try simp only [sbb] at hb1
   refine gn 1 Rg.no [kCd (bitL 3 5), KI.code [true, true]] [(1, vR 0 0), (15, vB (decide ((↑p.slots.length : Int) > 16)))] [LB.mk [cI p.lsn, cS Apslots p.slots.length cpslots] 58] ?_
   refine spl 15 (decide ((↑p.slots.length : Int) > 16)) ?_ ?_
   ·intro hb2
    replace hb2 := of_decide_eq_true hb2
    refine gn 0 Rg.no [kCd (bitL 5 21), KI.code [true, true]] [(2, vI (-1))] [] ?_
    refine rtk [vI (-1)] ?_
    intro L w1 hs
    exact ⟨retI (pgU_many (by omega)).symm, hs.out0⟩
   ·intro hb2
    replace hb2 := of_decide_eq_false hb2
    (exfalso; omega)
 obtain ⟨hlsn, h16⟩ : (0 ≤ p.lsn ∧ p.lsn ≤ 1000000) ∧ p.slots.length ≤ 16 := Classical.not_not.1 hb
 refine gn 1 (Rg.sq (bitL 3 1) 2) [kCd (bitL 3 5), KI.code [true, true]] [(1, vR 0 0), (7, vI p.lsn)] [LB.mk [cI p.lsn, cS Apslots p.slots.length cpslots] 58] ?_
 refine cpk 94 [vI p.lsn, vI 0, vI 1000000] (some 8) (Rg.sq (bitL 3 1) 3) (.one (.bo (decide (0 ≤ p.lsn) && decide (p.lsn ≤ 1000000)))) (fun L w1 hs => (within_ok (p.lsn) (0) (1000000) w1)) ?_
 refine gn 1 (Rg.sq (bitL 3 1) 5) [kCd (bitL 3 5), KI.code [true, true]] [(1, vR 0 0), (10, vB !(decide (0 ≤ p.lsn) && decide (p.lsn ≤ 1000000)))] [LB.mk [cI p.lsn, cS Apslots p.slots.length cpslots] 58] ?_
 refine spl 10 (!(decide (0 ≤ p.lsn) && decide (p.lsn ≤ 1000000))) ?_ ?_
 ·intro hb1
  try simp only [sbb] at hb1
  (exfalso; omega)
 intro hb1
 try simp only [sbb] at hb1
 refine gn 1 Rg.no [kCd (bitL 3 5), KI.code [true, true]] [(1, vR 0 0), (15, vB (decide ((↑p.slots.length : Int) > 16)))] [LB.mk [cI p.lsn, cS Apslots p.slots.length cpslots] 58] ?_
 refine spl 15 (decide ((↑p.slots.length : Int) > 16)) ?_ ?_
 ·intro hb2
  replace hb2 := of_decide_eq_true hb2
  (exfalso; omega)
 intro hb2
 replace hb2 := of_decide_eq_false hb2
 refine gn 1 Rg.no [kLp (bitL 7 119), KI.block 0, kCd (bitL 4 15)] [(1, vR 0 0), (3, vI (IntKind.i64.wrap ((1 : Int) + (↑p.slots.length : Int)))), (21, vS Apslots p.slots.length cpslots), (22, vI (↑p.slots.length : Int)), (23, vI 0)] [LB.mk [cI p.lsn, cS Apslots p.slots.length cpslots] 58] ?_
 try simp only [flx, nf_1]
 refine loop_at (ι := Nat) (fun i => [(3, .one (.v (.int .i64 (((1 + p.slots.length + (flat (p.slots.take i)).length : Nat) : Int))))), (23, .one (.v (.int .i64 i)))]) (fun _ => []) (fun _ => [oldA w]) (fun i => i ≤ p.slots.length ∧ ∀ s ∈ p.slots.take i, s.length ≤ 92) (fun i => p.slots.length - i) 0 rfl rfl rfl ⟨Nat.zero_le _, fun s hs => by simp at hs⟩ ?_
 rintro i ⟨hi, hall⟩ ih
 rcases Nat.lt_or_ge i p.slots.length with hlt | hge
 ·have hs1 := flat_take hlt
  have hs2 := flat_bnd hall
  have hs3 : (flat (p.slots.take i)).length + p.slots[i].length = (flat (p.slots.take (i + 1))).length := by rw [← hs1, List.length_append]
  have htl : (p.slots.take i).length = i := by rw [List.length_take]; omega
  refine gn 1 Rg.no [kCd (bitL 9 247), kCd (bitL 9 503), kLp (bitL 7 119), KI.block 0, kCd (bitL 4 15)] [(1, vR 0 0), (3, vI (↑(1 + p.slots.length + (flat (List.take i p.slots)).length) : Int)), (21, vS Apslots p.slots.length cpslots), (22, vI (↑p.slots.length : Int)), (23, vI (↑i : Int)), (24, vB (decide ((↑i : Int) < (↑p.slots.length : Int))))] [LB.mk [cI p.lsn, cS Apslots p.slots.length cpslots] 58] ?_
  refine spl 24 (decide ((↑i : Int) < (↑p.slots.length : Int))) ?_ ?_
  rotate_left
  ·intro hb3
   replace hb3 := of_decide_eq_false hb3
   (exfalso; omega)
  intro hb3
  replace hb3 := of_decide_eq_true hb3
  refine gn 1 (Rg.sq (bitL 12 1527) 0) [kCd (bitL 12 3575), KI.block 1, kCd (bitL 10 1015), kLp (bitL 7 119), KI.block 0, kCd (bitL 4 15)] [(1, vR 0 0), (3, vI (↑(1 + p.slots.length + (flat (List.take i p.slots)).length) : Int)), (21, vS Apslots p.slots.length cpslots), (22, vI (↑p.slots.length : Int)), (23, vI (↑i : Int))] [LB.mk [cI p.lsn, cS Apslots p.slots.length cpslots] 58] ?_
  refine index_at 0 (by kernel_rfl : atP _ _ _ 0 false = some (Op.indexAddr 56 (tmpO 21) (tmpO 23), 0, some 25, Rg.sq (bitL 12 1527) 1)) (ni := i) (sz := 1) (by kernel_rfl) rfl rfl rfl ‹_› (fun L w1 hs => rd_some (i := i) (rdRow_ext (hs.old 0 rfl) hrpslots) ‹_›) ?_
  intro a_1 ha_1
  cases ha_1
  refine gn 1 (Rg.sq (bitL 12 1527) 1) [kCd (bitL 12 3575), KI.block 1, kCd (bitL 10 1015), kLp (bitL 7 119), KI.block 0, kCd (bitL 4 15)] [(1, vR 0 0), (3, vI (↑(1 + p.slots.length + (flat (List.take i p.slots)).length) : Int)), (21, vS (some a_1) p.slots.length cpslots), (22, vI (↑p.slots.length : Int)), (23, vI (↑i : Int)), (25, vP (a_1.add (i * 1)))] [LB.mk [cI p.lsn, cS (some a_1) p.slots.length cpslots] 58] ?_
  obtain ⟨Ai, ci, hcell, hrow⟩ := rd_row hrpslots hlt
  refine load_one 1 (by kernel_rfl : atP _ _ _ 1 true = some (Op.load 44 (tmpO 25), 44, some 26, Rg.sq (bitL 12 1527) 2)) (n := 1) (by kernel_rfl) rfl ?_
  intro L w1 hs
  refine ⟨.v (.slice Ai (p.slots[i]'hlt).length ci), cellH_ext (hs.old 0 rfl) hcell, ?_⟩
  clear hs
  by_cases hbig : 92 < p.slots[i].length
  ·refine gn 1 Rg.no [kCd (bitL 14 11767), kCd (bitL 13 7671), KI.block 1, kCd (bitL 10 1015), kLp (bitL 7 119), KI.block 0, kCd (bitL 4 15)] [(1, vR 0 0), (3, vI (↑(1 + p.slots.length + (flat (List.take i p.slots)).length) : Int)), (5, vS Ai p.slots[i].length ci), (21, vS (some a_1) p.slots.length cpslots), (22, vI (↑p.slots.length : Int)), (23, vI (↑i : Int)), (29, vB (decide ((↑p.slots[i].length : Int) > 92)))] [LB.mk [cI p.lsn, cS (some a_1) p.slots.length cpslots] 58] ?_
   refine spl 29 (decide ((↑p.slots[i].length : Int) > 92)) ?_ ?_
   ·intro hb4
    replace hb4 := of_decide_eq_true hb4
    refine gn 0 Rg.no [kCd (bitL 16 44535), kCd (bitL 13 7671), KI.block 1, kCd (bitL 10 1015), kLp (bitL 7 119), KI.block 0, kCd (bitL 4 15)] [(2, vI (-1))] [] ?_
    refine rtk [vI (-1)] ?_
    intro L w1 hs
    exact ⟨retI (pgU_big hlt hbig).symm, hs.out0⟩
   ·intro hb4
    replace hb4 := of_decide_eq_false hb4
    (exfalso; omega)
  have nf_2 : IntKind.i64.wrap (((1 + p.slots.length + (flat (p.slots.take i)).length : Nat) : Int) + (p.slots[i].length : Int)) = ((1 + p.slots.length + (flat (p.slots.take (i + 1))).length : Nat) : Int) := by rw [IntKind.wrap_i64]; omega
  refine gn 1 Rg.no [kCd (bitL 14 11767), kCd (bitL 13 7671), KI.block 1, kCd (bitL 10 1015), kLp (bitL 7 119), KI.block 0, kCd (bitL 4 15)] [(1, vR 0 0), (3, vI (↑(1 + p.slots.length + (flat (List.take i p.slots)).length) : Int)), (5, vS Ai p.slots[i].length ci), (21, vS (some a_1) p.slots.length cpslots), (22, vI (↑p.slots.length : Int)), (23, vI (↑i : Int)), (29, vB (decide ((↑p.slots[i].length : Int) > 92)))] [LB.mk [cI p.lsn, cS (some a_1) p.slots.length cpslots] 58] ?_
  refine spl 29 (decide ((↑p.slots[i].length : Int) > 92)) ?_ ?_
  ·intro hb4
   replace hb4 := of_decide_eq_true hb4
   (exfalso; omega)
  ·intro hb4
   replace hb4 := of_decide_eq_false hb4
   refine gn 1 Rg.no [kLp (bitL 7 119), KI.block 0, kCd (bitL 4 15)] [(1, vR 0 0), (3, vI (IntKind.i64.wrap ((↑(1 + p.slots.length + (flat (List.take i p.slots)).length) : Int) + (↑p.slots[i].length : Int)))), (21, vS (some a_1) p.slots.length cpslots), (22, vI (↑p.slots.length : Int)), (23, vI (IntKind.i64.wrap ((↑i : Int) + 1)))] [LB.mk [cI p.lsn, cS (some a_1) p.slots.length cpslots] 58] ?_
   try simp only [flx, nf_1, nf_2]
   rw [wrap_succ (by omega)]; exact ih (i + 1) ⟨hlt, all_take hall hlt (by omega)⟩ (by omega)
 obtain rfl : i = p.slots.length := by omega
 have hbn := flat_bnd hall
 rw [List.take_length] at hall hbn ⊢
 by_cases h0 : p.slots.length = 0
 ·refine gn 1 Rg.no [kCd (bitL 9 247), kCd (bitL 9 503), kLp (bitL 7 119), KI.block 0, kCd (bitL 4 15)] [(1, vR 0 0), (3, vI (↑(1 + p.slots.length + (flat p.slots).length) : Int)), (21, vS Apslots p.slots.length cpslots), (22, vI (↑p.slots.length : Int)), (23, vI (↑p.slots.length : Int)), (24, vB (decide ((↑p.slots.length : Int) < (↑p.slots.length : Int))))] [LB.mk [cI p.lsn, cS Apslots p.slots.length cpslots] 58] ?_
  refine spl 24 (decide ((↑p.slots.length : Int) < (↑p.slots.length : Int))) ?_ ?_
  ·intro hb3
   replace hb3 := of_decide_eq_true hb3
   (exfalso; omega)
  ·intro hb3
   replace hb3 := of_decide_eq_false hb3
   refine gn 1 (Rg.sq (bitL 6 15) 3) [kCd (bitL 6 47), kCd (bitL 5 31)] [(1, vR 0 0), (3, vI (↑(1 + p.slots.length + (flat p.slots).length) : Int)), (37, vB (decide ((↑(1 + p.slots.length + (flat p.slots).length) : Int) > 240)))] [LB.mk [cI p.lsn, cS Apslots p.slots.length cpslots] 58] ?_
   refine spl 37 (decide ((↑(1 + p.slots.length + (flat p.slots).length) : Int) > 240)) ?_ ?_
   ·intro hb4
    replace hb4 := of_decide_eq_true hb4
    (exfalso; omega)
   ·intro hb4
    replace hb4 := of_decide_eq_false hb4
    refine gn 1 (Rg.sq (bitL 6 15) 8) [kCd (bitL 6 47), kCd (bitL 5 31)] [(1, vR 0 0), (3, vI (↑(1 + p.slots.length + (flat p.slots).length) : Int)), (37, vL false), (42, vB (decide ((↑p.slots.length : Int) > 0)))] [LB.mk [cI p.lsn, cS Apslots p.slots.length cpslots] 58] ?_
    refine spl 42 (decide ((↑p.slots.length : Int) > 0)) ?_ ?_
    ·intro hb5
     replace hb5 := of_decide_eq_true hb5
     (exfalso; omega)
    ·intro hb5
     replace hb5 := of_decide_eq_false hb5
     refine gn 0 Rg.no [kCd (bitL 6 63)] [(2, vI (↑(1 + p.slots.length + (flat p.slots).length) : Int))] [] ?_
     refine rtk [vI (↑(1 + p.slots.length + (flat p.slots).length) : Int)] ?_
     intro L w1 hs
     exact ⟨retI (pgU_yes (by omega) (by omega) hall (by omega) (.inl (by omega))).symm, hs.out0⟩
 have hlst : p.slots.length - 1 < p.slots.length := by omega
 have nf_4 : IntKind.i64.wrap ((p.slots.length : Int) - 1) = ((p.slots.length - 1 : Nat) : Int) := by rw [IntKind.wrap_i64]; omega
 refine gn 1 Rg.no [kCd (bitL 9 247), kCd (bitL 9 503), kLp (bitL 7 119), KI.block 0, kCd (bitL 4 15)] [(1, vR 0 0), (3, vI (↑(1 + p.slots.length + (flat p.slots).length) : Int)), (21, vS Apslots p.slots.length cpslots), (22, vI (↑p.slots.length : Int)), (23, vI (↑p.slots.length : Int)), (24, vB (decide ((↑p.slots.length : Int) < (↑p.slots.length : Int))))] [LB.mk [cI p.lsn, cS Apslots p.slots.length cpslots] 58] ?_
 refine spl 24 (decide ((↑p.slots.length : Int) < (↑p.slots.length : Int))) ?_ ?_
 ·intro hb3
  replace hb3 := of_decide_eq_true hb3
  (exfalso; omega)
 intro hb3
 replace hb3 := of_decide_eq_false hb3
 refine gn 1 (Rg.sq (bitL 6 15) 3) [kCd (bitL 6 47), kCd (bitL 5 31)] [(1, vR 0 0), (3, vI (↑(1 + p.slots.length + (flat p.slots).length) : Int)), (37, vB (decide ((↑(1 + p.slots.length + (flat p.slots).length) : Int) > 240)))] [LB.mk [cI p.lsn, cS Apslots p.slots.length cpslots] 58] ?_
 refine spl 37 (decide ((↑(1 + p.slots.length + (flat p.slots).length) : Int) > 240)) ?_ ?_
 ·intro hb4
  replace hb4 := of_decide_eq_true hb4
  refine gn 0 Rg.no [kCd (bitL 8 175), kCd (bitL 5 31)] [(2, vI (-1))] [] ?_
  refine rtk [vI (-1)] ?_
  intro L w1 hs
  exact ⟨retI (pgU_full (by omega)).symm, hs.out0⟩
 intro hb4
 replace hb4 := of_decide_eq_false hb4
 refine gn 1 (Rg.sq (bitL 6 15) 8) [kCd (bitL 6 47), kCd (bitL 5 31)] [(1, vR 0 0), (3, vI (↑(1 + p.slots.length + (flat p.slots).length) : Int)), (37, vL false), (42, vB (decide ((↑p.slots.length : Int) > 0)))] [LB.mk [cI p.lsn, cS Apslots p.slots.length cpslots] 58] ?_
 refine spl 42 (decide ((↑p.slots.length : Int) > 0)) ?_ ?_
 rotate_left
 ·intro hb5
  replace hb5 := of_decide_eq_false hb5
  (exfalso; omega)
 intro hb5
 replace hb5 := of_decide_eq_true hb5
 refine gn 0 (Rg.sq (bitL 6 15) 14) [kCd (bitL 6 47), kCd (bitL 5 31)] [(3, vI (↑(1 + p.slots.length + (flat p.slots).length) : Int)), (37, vL false), (42, vL true), (44, vS Apslots p.slots.length cpslots), (48, vI (IntKind.i64.wrap ((↑p.slots.length : Int) - 1)))] [] ?_
 try simp only [flx, nf_1, nf_4]
 refine index_at 14 (by kernel_rfl : atP _ _ _ 14 false = some (Op.indexAddr 56 (tmpO 44) (tmpO 48), 0, some 49, Rg.sq (bitL 6 15) 15)) (ni := p.slots.length - 1) (sz := 1) (by kernel_rfl) rfl rfl rfl ‹_› (fun L w1 hs => rd_some (i := p.slots.length - 1) (rdRow_ext (hs.old 0 rfl) hrpslots) ‹_›) ?_
 intro a_1 ha_1
 cases ha_1
 refine gn 0 (Rg.sq (bitL 6 15) 15) [kCd (bitL 6 47), kCd (bitL 5 31)] [(3, vI (↑(1 + p.slots.length + (flat p.slots).length) : Int)), (37, vL false), (42, vL true), (49, vP (a_1.add ((p.slots.length - 1) * 1)))] [] ?_
 obtain ⟨Ai, ci, hcell, hrow⟩ := rd_row hrpslots hlst
 refine load_one 15 (by kernel_rfl : atP _ _ _ 15 true = some (Op.load 44 (tmpO 49), 44, some 50, Rg.sq (bitL 6 15) 16)) (n := 1) (by kernel_rfl) rfl ?_
 intro L w1 hs
 refine ⟨.v (.slice Ai (p.slots[(p.slots.length - 1)]'hlst).length ci), cellH_ext (hs.old 0 rfl) hcell, ?_⟩
 clear hs
 refine gn 0 Rg.no [kCd (bitL 6 47), kCd (bitL 5 31)] [(3, vI (↑(1 + p.slots.length + (flat p.slots).length) : Int)), (54, vB ((↑p.slots[p.slots.length - 1].length : Int) == 0))] [] ?_
 refine spl 54 ((↑p.slots[p.slots.length - 1].length : Int) == 0) ?_ ?_
 ·intro hb6
  replace hb6 := beq_iff_eq.1 hb6
  refine gn 0 Rg.no [kCd (bitL 8 175), kCd (bitL 5 31)] [(2, vI (-1))] [] ?_
  refine rtk [vI (-1)] ?_
  intro L w1 hs
  exact ⟨retI (pgU_last hlst (by omega)).symm, hs.out0⟩
 ·intro hb6
  replace hb6 := beq_eq_false_iff_ne.1 hb6
  refine gn 0 Rg.no [kCd (bitL 6 63)] [(2, vI (↑(1 + p.slots.length + (flat p.slots).length) : Int))] [] ?_
  refine rtk [vI (↑(1 + p.slots.length + (flat p.slots).length) : Int)] ?_
  intro L w1 hs
  exact ⟨retI (pgU_yes (by omega) (by omega) hall (by omega) (.inr ⟨hlst, by omega⟩)).symm, hs.out0⟩
theorem sPgUsed_ok (p : Pg) (csp : List Value) (w : World) (hp : kPg.rd w.heap p csp) (hl : p.slots.length ≤ 1048576) :
  Calls Tryz.prog 50 #[.agg csp.toArray] w fun e w' => e = .returned (.int .i64 (pgU p)) ∧ Below w.heap.size w w' := by
 obtain ⟨Apslots, cpslots, rfl, hrpslots⟩ := kPg_inv hp
 refine enter (args := [.agg [.v (.int .i64 p.lsn), .v (.slice Apslots p.slots.length cpslots)]]) Tryz.func50 (c := bodyOf Tryz.f50) rfl rfl (start_LOK _) (start_old w) ?_
 have nf_1 : IntKind.i64.wrap ((1 : Int) + (p.slots.length : Int)) = ((1 + p.slots.length : Nat) : Int) := by rw [IntKind.wrap_i64]; omega
 by_cases hb : ¬ ((0 ≤ p.lsn ∧ p.lsn ≤ 1000000) ∧ p.slots.length ≤ 16)
 ·refine gn 1 (Rg.sq (bitL 3 1) 2) [kCd (bitL 3 5), KI.code [true, true]] [(1, vR 0 0), (6, vI p.lsn)] [LB.mk [cI p.lsn, cS Apslots p.slots.length cpslots] 58] ?_
  refine cpk 76 [vI p.lsn, vI 0, vI 1000000] (some 7) (Rg.sq (bitL 3 1) 3) (.one (.bo (decide (0 ≤ p.lsn) && decide (p.lsn ≤ 1000000)))) (fun L w1 hs => (l5in_ok (p.lsn) (0) (1000000) w1)) ?_
  refine gn 1 (Rg.sq (bitL 3 1) 5) [kCd (bitL 3 5), KI.code [true, true]] [(1, vR 0 0), (9, vB !(decide (0 ≤ p.lsn) && decide (p.lsn ≤ 1000000)))] [LB.mk [cI p.lsn, cS Apslots p.slots.length cpslots] 58] ?_
  refine spl 9 (!(decide (0 ≤ p.lsn) && decide (p.lsn ≤ 1000000))) ?_ ?_
  ·intro hb1
   try simp only [sbb] at hb1
   refine gn 0 Rg.no [kCd (bitL 5 21), KI.code [true, true]] [(2, vI (-1))] [] ?_
   refine rtk [vI (-1)] ?_
   intro L w1 hs
   exact ⟨retI (pgU_lsn (by omega)).symm, hs.out0⟩
  ·intro hb1
   try simp only [sbb] at hb1
   refine gn 1 Rg.no [kCd (bitL 3 5), KI.code [true, true]] [(1, vR 0 0), (14, vB (decide ((↑p.slots.length : Int) > 16)))] [LB.mk [cI p.lsn, cS Apslots p.slots.length cpslots] 58] ?_
   refine spl 14 (decide ((↑p.slots.length : Int) > 16)) ?_ ?_
   ·intro hb2
    replace hb2 := of_decide_eq_true hb2
    refine gn 0 Rg.no [kCd (bitL 5 21), KI.code [true, true]] [(2, vI (-1))] [] ?_
    refine rtk [vI (-1)] ?_
    intro L w1 hs
    exact ⟨retI (pgU_many (by omega)).symm, hs.out0⟩
   ·intro hb2
    replace hb2 := of_decide_eq_false hb2
    (exfalso; omega)
 obtain ⟨hlsn, h16⟩ : (0 ≤ p.lsn ∧ p.lsn ≤ 1000000) ∧ p.slots.length ≤ 16 := Classical.not_not.1 hb
 refine gn 1 (Rg.sq (bitL 3 1) 2) [kCd (bitL 3 5), KI.code [true, true]] [(1, vR 0 0), (6, vI p.lsn)] [LB.mk [cI p.lsn, cS Apslots p.slots.length cpslots] 58] ?_
 refine cpk 76 [vI p.lsn, vI 0, vI 1000000] (some 7) (Rg.sq (bitL 3 1) 3) (.one (.bo (decide (0 ≤ p.lsn) && decide (p.lsn ≤ 1000000)))) (fun L w1 hs => (l5in_ok (p.lsn) (0) (1000000) w1)) ?_
 refine gn 1 (Rg.sq (bitL 3 1) 5) [kCd (bitL 3 5), KI.code [true, true]] [(1, vR 0 0), (9, vB !(decide (0 ≤ p.lsn) && decide (p.lsn ≤ 1000000)))] [LB.mk [cI p.lsn, cS Apslots p.slots.length cpslots] 58] ?_
 refine spl 9 (!(decide (0 ≤ p.lsn) && decide (p.lsn ≤ 1000000))) ?_ ?_
 ·intro hb1
  try simp only [sbb] at hb1
  (exfalso; omega)
 intro hb1
 try simp only [sbb] at hb1
 refine gn 1 Rg.no [kCd (bitL 3 5), KI.code [true, true]] [(1, vR 0 0), (14, vB (decide ((↑p.slots.length : Int) > 16)))] [LB.mk [cI p.lsn, cS Apslots p.slots.length cpslots] 58] ?_
 refine spl 14 (decide ((↑p.slots.length : Int) > 16)) ?_ ?_
 ·intro hb2
  replace hb2 := of_decide_eq_true hb2
  (exfalso; omega)
 intro hb2
 replace hb2 := of_decide_eq_false hb2
 refine gn 1 Rg.no [kLp (bitL 7 119), KI.block 0, kCd (bitL 4 15)] [(1, vR 0 0), (3, vI (IntKind.i64.wrap ((1 : Int) + (↑p.slots.length : Int)))), (4, vI 0)] [LB.mk [cI p.lsn, cS Apslots p.slots.length cpslots] 58] ?_
 try simp only [flx, nf_1]
 refine loop_at (ι := Nat) (fun i => [(3, .one (.v (.int .i64 (((1 + p.slots.length + (flat (p.slots.take i)).length : Nat) : Int))))), (4, .one (.v (.int .i64 i)))]) (fun _ => []) (fun _ => [oldA w]) (fun i => i ≤ p.slots.length ∧ ∀ s ∈ p.slots.take i, s.length ≤ 92) (fun i => p.slots.length - i) 0 rfl rfl rfl ⟨Nat.zero_le _, fun s hs => by simp at hs⟩ ?_
 rintro i ⟨hi, hall⟩ ih
 rcases Nat.lt_or_ge i p.slots.length with hlt | hge
 ·have hs1 := flat_take hlt
  have hs2 := flat_bnd hall
  have hs3 : (flat (p.slots.take i)).length + p.slots[i].length = (flat (p.slots.take (i + 1))).length := by rw [← hs1, List.length_append]
  have htl : (p.slots.take i).length = i := by rw [List.length_take]; omega
  refine gn 1 Rg.no [kCd (bitL 9 375), kCd (bitL 8 247), kLp (bitL 7 119), KI.block 0, kCd (bitL 4 15)] [(1, vR 0 0), (3, vI (↑(1 + p.slots.length + (flat (List.take i p.slots)).length) : Int)), (4, vI (↑i : Int)), (23, vB (decide ((↑i : Int) < (↑p.slots.length : Int))))] [LB.mk [cI p.lsn, cS Apslots p.slots.length cpslots] 58] ?_
  refine spl 23 (decide ((↑i : Int) < (↑p.slots.length : Int))) ?_ ?_
  rotate_left
  ·intro hb3
   replace hb3 := of_decide_eq_false hb3
   (exfalso; omega)
  intro hb3
  replace hb3 := of_decide_eq_true hb3
  refine gn 1 (Rg.sq (bitL 12 759) 3) [kCd (bitL 12 2807), kCd (bitL 11 1783), KI.block 1, kCd (bitL 9 503), kLp (bitL 7 119), KI.block 0, kCd (bitL 4 15)] [(1, vR 0 0), (3, vI (↑(1 + p.slots.length + (flat (List.take i p.slots)).length) : Int)), (4, vI (↑i : Int)), (27, vS Apslots p.slots.length cpslots), (28, vI (↑i : Int))] [LB.mk [cI p.lsn, cS Apslots p.slots.length cpslots] 58] ?_
  refine index_at 3 (by kernel_rfl : atP _ _ _ 3 false = some (Op.indexAddr 56 (tmpO 27) (tmpO 28), 0, some 29, Rg.sq (bitL 12 759) 4)) (ni := i) (sz := 1) (by kernel_rfl) rfl rfl rfl ‹_› (fun L w1 hs => rd_some (i := i) (rdRow_ext (hs.old 0 rfl) hrpslots) ‹_›) ?_
  intro a_1 ha_1
  cases ha_1
  refine gn 1 (Rg.sq (bitL 12 759) 4) [kCd (bitL 12 2807), kCd (bitL 11 1783), KI.block 1, kCd (bitL 9 503), kLp (bitL 7 119), KI.block 0, kCd (bitL 4 15)] [(1, vR 0 0), (3, vI (↑(1 + p.slots.length + (flat (List.take i p.slots)).length) : Int)), (4, vI (↑i : Int)), (29, vP (a_1.add (i * 1)))] [LB.mk [cI p.lsn, cS (some a_1) p.slots.length cpslots] 58] ?_
  obtain ⟨Ai, ci, hcell, hrow⟩ := rd_row hrpslots hlt
  refine load_one 4 (by kernel_rfl : atP _ _ _ 4 true = some (Op.load 44 (tmpO 29), 44, some 30, Rg.sq (bitL 12 759) 5)) (n := 1) (by kernel_rfl) rfl ?_
  intro L w1 hs
  refine ⟨.v (.slice Ai (p.slots[i]'hlt).length ci), cellH_ext (hs.old 0 rfl) hcell, ?_⟩
  clear hs
  by_cases hbig : 92 < p.slots[i].length
  ·refine gn 1 Rg.no [kCd (bitL 12 2807), kCd (bitL 11 1783), KI.block 1, kCd (bitL 9 503), kLp (bitL 7 119), KI.block 0, kCd (bitL 4 15)] [(1, vR 0 0), (3, vI (↑(1 + p.slots.length + (flat (List.take i p.slots)).length) : Int)), (4, vI (↑i : Int)), (32, vB (decide ((↑p.slots[i].length : Int) > 92)))] [LB.mk [cI p.lsn, cS (some a_1) p.slots.length cpslots] 58] ?_
   refine spl 32 (decide ((↑p.slots[i].length : Int) > 92)) ?_ ?_
   ·intro hb4
    replace hb4 := of_decide_eq_true hb4
    refine gn 0 Rg.no [kCd (bitL 14 10999), kCd (bitL 11 1783), KI.block 1, kCd (bitL 9 503), kLp (bitL 7 119), KI.block 0, kCd (bitL 4 15)] [(2, vI (-1))] [] ?_
    refine rtk [vI (-1)] ?_
    intro L w1 hs
    exact ⟨retI (pgU_big hlt hbig).symm, hs.out0⟩
   ·intro hb4
    replace hb4 := of_decide_eq_false hb4
    (exfalso; omega)
  have nf_2 : IntKind.i64.wrap (((1 + p.slots.length + (flat (p.slots.take i)).length : Nat) : Int) + (p.slots[i].length : Int)) = ((1 + p.slots.length + (flat (p.slots.take (i + 1))).length : Nat) : Int) := by rw [IntKind.wrap_i64]; omega
  refine gn 1 Rg.no [kCd (bitL 12 2807), kCd (bitL 11 1783), KI.block 1, kCd (bitL 9 503), kLp (bitL 7 119), KI.block 0, kCd (bitL 4 15)] [(1, vR 0 0), (3, vI (↑(1 + p.slots.length + (flat (List.take i p.slots)).length) : Int)), (4, vI (↑i : Int)), (32, vB (decide ((↑p.slots[i].length : Int) > 92)))] [LB.mk [cI p.lsn, cS (some a_1) p.slots.length cpslots] 58] ?_
  refine spl 32 (decide ((↑p.slots[i].length : Int) > 92)) ?_ ?_
  ·intro hb4
   replace hb4 := of_decide_eq_true hb4
   (exfalso; omega)
  intro hb4
  replace hb4 := of_decide_eq_false hb4
  refine gn 1 (Rg.sq (bitL 11 1783) 4) [KI.block 1, kCd (bitL 9 503), kLp (bitL 7 119), KI.block 0, kCd (bitL 4 15)] [(1, vR 0 0), (4, vI (↑i : Int)), (33, vI (↑(1 + p.slots.length + (flat (List.take i p.slots)).length) : Int)), (35, vS (some a_1) p.slots.length cpslots), (36, vI (↑i : Int))] [LB.mk [cI p.lsn, cS (some a_1) p.slots.length cpslots] 58] ?_
  refine index_at 4 (by kernel_rfl : atP _ _ _ 4 false = some (Op.indexAddr 56 (tmpO 35) (tmpO 36), 0, some 37, Rg.sq (bitL 11 1783) 5)) (ni := i) (sz := 1) (by kernel_rfl) rfl rfl rfl ‹_› (fun L w1 hs => rd_some (i := i) (rdRow_ext (hs.old 0 rfl) hrpslots) ‹_›) ?_
  intro a_2 ha_2
  cases ha_2
  refine gn 1 (Rg.sq (bitL 11 1783) 5) [KI.block 1, kCd (bitL 9 503), kLp (bitL 7 119), KI.block 0, kCd (bitL 4 15)] [(1, vR 0 0), (4, vI (↑i : Int)), (33, vI (↑(1 + p.slots.length + (flat (List.take i p.slots)).length) : Int)), (37, vP (a_1.add (i * 1)))] [LB.mk [cI p.lsn, cS (some a_1) p.slots.length cpslots] 58] ?_
  obtain ⟨Ai, ci, hcell, hrow⟩ := rd_row hrpslots hlt
  refine load_one 5 (by kernel_rfl : atP _ _ _ 5 true = some (Op.load 44 (tmpO 37), 44, some 38, Rg.sq (bitL 11 1783) 6)) (n := 1) (by kernel_rfl) rfl ?_
  intro L w1 hs
  refine ⟨.v (.slice Ai (p.slots[i]'hlt).length ci), cellH_ext (hs.old 0 rfl) hcell, ?_⟩
  clear hs
  refine gn 1 Rg.no [kLp (bitL 7 119), KI.block 0, kCd (bitL 4 15)] [(1, vR 0 0), (3, vI (IntKind.i64.wrap ((↑(1 + p.slots.length + (flat (List.take i p.slots)).length) : Int) + (↑p.slots[i].length : Int)))), (4, vI (IntKind.i64.wrap ((↑i : Int) + 1)))] [LB.mk [cI p.lsn, cS (some a_1) p.slots.length cpslots] 58] ?_
  try simp only [flx, nf_1, nf_2]
  rw [wrap_succ (by omega)]; exact ih (i + 1) ⟨hlt, all_take hall hlt (by omega)⟩ (by omega)
 obtain rfl : i = p.slots.length := by omega
 have hbn := flat_bnd hall
 rw [List.take_length] at hall hbn ⊢
 by_cases h0 : p.slots.length = 0
 ·refine gn 1 Rg.no [kCd (bitL 9 375), kCd (bitL 8 247), kLp (bitL 7 119), KI.block 0, kCd (bitL 4 15)] [(1, vR 0 0), (3, vI (↑(1 + p.slots.length + (flat p.slots).length) : Int)), (4, vI (↑p.slots.length : Int)), (23, vB (decide ((↑p.slots.length : Int) < (↑p.slots.length : Int))))] [LB.mk [cI p.lsn, cS Apslots p.slots.length cpslots] 58] ?_
  refine spl 23 (decide ((↑p.slots.length : Int) < (↑p.slots.length : Int))) ?_ ?_
  ·intro hb3
   replace hb3 := of_decide_eq_true hb3
   (exfalso; omega)
  ·intro hb3
   replace hb3 := of_decide_eq_false hb3
   refine gn 1 (Rg.sq (bitL 6 15) 5) [kCd (bitL 6 47), kCd (bitL 5 31)] [(1, vR 0 0), (3, vI (↑(1 + p.slots.length + (flat p.slots).length) : Int)), (45, vB (decide ((↑p.slots.length : Int) > 0)))] [LB.mk [cI p.lsn, cS Apslots p.slots.length cpslots] 58] ?_
   refine spl 45 (decide ((↑p.slots.length : Int) > 0)) ?_ ?_
   ·intro hb4
    replace hb4 := of_decide_eq_true hb4
    (exfalso; omega)
   ·intro hb4
    replace hb4 := of_decide_eq_false hb4
    refine gn 0 Rg.no [kCd (bitL 7 95), kCd (bitL 6 63)] [(3, vI (↑(1 + p.slots.length + (flat p.slots).length) : Int)), (58, vB (decide ((↑(1 + p.slots.length + (flat p.slots).length) : Int) > 240)))] [] ?_
    refine spl 58 (decide ((↑(1 + p.slots.length + (flat p.slots).length) : Int) > 240)) ?_ ?_
    ·intro hb5
     replace hb5 := of_decide_eq_true hb5
     (exfalso; omega)
    ·intro hb5
     replace hb5 := of_decide_eq_false hb5
     refine gn 0 Rg.no [kCd (bitL 7 127)] [(2, vI (↑(1 + p.slots.length + (flat p.slots).length) : Int))] [] ?_
     refine rtk [vI (↑(1 + p.slots.length + (flat p.slots).length) : Int)] ?_
     intro L w1 hs
     exact ⟨retI (pgU_yes (by omega) (by omega) hall (by omega) (.inl (by omega))).symm, hs.out0⟩
 have hlst : p.slots.length - 1 < p.slots.length := by omega
 have nf_4 : IntKind.i64.wrap ((p.slots.length : Int) - 1) = ((p.slots.length - 1 : Nat) : Int) := by rw [IntKind.wrap_i64]; omega
 refine gn 1 Rg.no [kCd (bitL 9 375), kCd (bitL 8 247), kLp (bitL 7 119), KI.block 0, kCd (bitL 4 15)] [(1, vR 0 0), (3, vI (↑(1 + p.slots.length + (flat p.slots).length) : Int)), (4, vI (↑p.slots.length : Int)), (23, vB (decide ((↑p.slots.length : Int) < (↑p.slots.length : Int))))] [LB.mk [cI p.lsn, cS Apslots p.slots.length cpslots] 58] ?_
 refine spl 23 (decide ((↑p.slots.length : Int) < (↑p.slots.length : Int))) ?_ ?_
 ·intro hb3
  replace hb3 := of_decide_eq_true hb3
  (exfalso; omega)
 intro hb3
 replace hb3 := of_decide_eq_false hb3
 refine gn 1 (Rg.sq (bitL 6 15) 5) [kCd (bitL 6 47), kCd (bitL 5 31)] [(1, vR 0 0), (3, vI (↑(1 + p.slots.length + (flat p.slots).length) : Int)), (45, vB (decide ((↑p.slots.length : Int) > 0)))] [LB.mk [cI p.lsn, cS Apslots p.slots.length cpslots] 58] ?_
 refine spl 45 (decide ((↑p.slots.length : Int) > 0)) ?_ ?_
 rotate_left
 ·intro hb4
  replace hb4 := of_decide_eq_false hb4
  (exfalso; omega)
 intro hb4
 replace hb4 := of_decide_eq_true hb4
 refine gn 0 (Rg.sq (bitL 6 15) 11) [kCd (bitL 6 47), kCd (bitL 5 31)] [(3, vI (↑(1 + p.slots.length + (flat p.slots).length) : Int)), (45, vL true), (47, vS Apslots p.slots.length cpslots), (51, vI (IntKind.i64.wrap ((↑p.slots.length : Int) - 1)))] [] ?_
 try simp only [flx, nf_1, nf_4]
 refine index_at 11 (by kernel_rfl : atP _ _ _ 11 false = some (Op.indexAddr 56 (tmpO 47) (tmpO 51), 0, some 52, Rg.sq (bitL 6 15) 12)) (ni := p.slots.length - 1) (sz := 1) (by kernel_rfl) rfl rfl rfl ‹_› (fun L w1 hs => rd_some (i := p.slots.length - 1) (rdRow_ext (hs.old 0 rfl) hrpslots) ‹_›) ?_
 intro a_1 ha_1
 cases ha_1
 refine gn 0 (Rg.sq (bitL 6 15) 12) [kCd (bitL 6 47), kCd (bitL 5 31)] [(3, vI (↑(1 + p.slots.length + (flat p.slots).length) : Int)), (45, vL true), (52, vP (a_1.add ((p.slots.length - 1) * 1)))] [] ?_
 obtain ⟨Ai, ci, hcell, hrow⟩ := rd_row hrpslots hlst
 refine load_one 12 (by kernel_rfl : atP _ _ _ 12 true = some (Op.load 44 (tmpO 52), 44, some 53, Rg.sq (bitL 6 15) 13)) (n := 1) (by kernel_rfl) rfl ?_
 intro L w1 hs
 refine ⟨.v (.slice Ai (p.slots[(p.slots.length - 1)]'hlst).length ci), cellH_ext (hs.old 0 rfl) hcell, ?_⟩
 clear hs
 refine gn 0 Rg.no [kCd (bitL 6 47), kCd (bitL 5 31)] [(3, vI (↑(1 + p.slots.length + (flat p.slots).length) : Int)), (56, vB ((↑p.slots[p.slots.length - 1].length : Int) == 0))] [] ?_
 refine spl 56 ((↑p.slots[p.slots.length - 1].length : Int) == 0) ?_ ?_
 ·intro hb5
  replace hb5 := beq_iff_eq.1 hb5
  refine gn 0 Rg.no [kCd (bitL 8 175), kCd (bitL 5 31)] [(2, vI (-1))] [] ?_
  refine rtk [vI (-1)] ?_
  intro L w1 hs
  exact ⟨retI (pgU_last hlst (by omega)).symm, hs.out0⟩
 ·intro hb5
  replace hb5 := beq_eq_false_iff_ne.1 hb5
  refine gn 0 Rg.no [kCd (bitL 7 95), kCd (bitL 6 63)] [(3, vI (↑(1 + p.slots.length + (flat p.slots).length) : Int)), (58, vB (decide ((↑(1 + p.slots.length + (flat p.slots).length) : Int) > 240)))] [] ?_
  refine spl 58 (decide ((↑(1 + p.slots.length + (flat p.slots).length) : Int) > 240)) ?_ ?_
  ·intro hb6
   replace hb6 := of_decide_eq_true hb6
   refine gn 0 Rg.no [kCd (bitL 9 351), kCd (bitL 6 63)] [(2, vI (-1))] [] ?_
   refine rtk [vI (-1)] ?_
   intro L w1 hs
   exact ⟨retI (pgU_full (by omega)).symm, hs.out0⟩
  ·intro hb6
   replace hb6 := of_decide_eq_false hb6
   refine gn 0 Rg.no [kCd (bitL 7 127)] [(2, vI (↑(1 + p.slots.length + (flat p.slots).length) : Int))] [] ?_
   refine rtk [vI (↑(1 + p.slots.length + (flat p.slots).length) : Int)] ?_
   intro L w1 hs
   exact ⟨retI (pgU_yes (by omega) (by omega) hall (by omega) (.inr ⟨hlst, by omega⟩)).symm, hs.out0⟩
end Go.Proofs.YtgleoebogikooaaGreat.Dk
