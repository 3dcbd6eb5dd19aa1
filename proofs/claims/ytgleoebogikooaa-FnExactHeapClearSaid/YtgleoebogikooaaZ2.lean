/- Walks of functions of the program: what each call returns and what it leaves in memory. Conditions: those that each theorem names. -/
import Derived.Test.YtgleoebogikooaaZ1
import Derived.Test.YtgleoebogikooaaX1
namespace Go.Proofs.Ytgleoebogikooaa.Dk
set_option linter.unusedVariables false
set_option linter.unusedSimpArgs false
open Go.Proofs.Ytgleoebogikooaa.Sx Go.Proofs Go.RowKit
set_option maxRecDepth 100000
set_option maxHeartbeats 1000000
theorem owRow_take {α : Type} {e : Nat} {d : Kn α} {h : Hp} {S : Nat → Prop} {xs : List α} {A : Option Addr} {n c m : Nat} (ho : owRow e d h S xs (.slice A n c)) (hm : m ≤ n) : owRow e d h S (xs.take m) (.slice A m c) := by
  have hn := own_len ho
  obtain ⟨A', c', hv, hle, hcm, hcase⟩ := owRow_iff.1 ho
  cases hv
  have hl : (xs.take m).length = m := by rw [List.length_take]; omega
  refine owRow_iff.2 ⟨A, c, by rw [hl], by rw [hl]; omega, hcm, ?_⟩
  rcases hcase with h0 | ⟨g, cells, hA, hg, hcell, hsz, T, t1, t2, t3⟩
  · exact .inl h0
  · refine .inr ⟨g, cells, hA, hg, hcell, hsz, T, t1, t2, fun i x hx => t3 i x ?_⟩
    rw [List.getElem?_take] at hx
    split at hx
    · exact hx
    · cases hx
theorem h_own_cap {C : Cx} {F : List HA} {α : Type} {d : Kn α} {xs : List α} {e n c : Nat} {B : Option Addr} {st : St} (h : n ≤ c → Holds C (rowA e d xs (.slice B n c) :: F) st) : Holds C (rowA e d xs (.slice B n c) :: F) st := by
  intro L w1 w a hs ht hr
  obtain ⟨S, _, hA⟩ := hs.head
  have ho := rowA_holds.1 hA
  have hn := own_len ho
  obtain ⟨A', c', hv, hle, _⟩ := owRow_iff.1 ho
  cases hv
  exact h (by omega) L w1 w a hs ht hr
def trimN (l : List (List Int)) : Nat → Nat
  | 0 => 0
  | n + 1 => if (l.getD n []).length = 0 then trimN l n else n + 1
def trimE (l : List (List Int)) : List (List Int) := l.take (trimN l l.length)
theorem trimN_go {l : List (List Int)} {m : Nat} (h0 : 0 < m) (hm : m - 1 < l.length) (h : l[m - 1].length = 0) : trimN l m = trimN l (m - 1) := by
  obtain ⟨k, rfl⟩ : ∃ k, m = k + 1 := ⟨m - 1, by omega⟩
  simp only [Nat.add_sub_cancel] at hm h ⊢
  conv => lhs; unfold trimN
  rw [if_pos]
  simp only [List.getD_eq_getElem?_getD, List.getElem?_eq_getElem hm, Option.getD_some]
  exact h
theorem trimN_stop {l : List (List Int)} {m : Nat} (h0 : 0 < m) (hm : m - 1 < l.length) (h : ¬ l[m - 1].length = 0) : trimN l m = m := by
  obtain ⟨k, rfl⟩ : ∃ k, m = k + 1 := ⟨m - 1, by omega⟩
  simp only [Nat.add_sub_cancel] at hm h ⊢
  unfold trimN
  rw [if_neg]
  simp only [List.getD_eq_getElem?_getD, List.getElem?_eq_getElem hm, Option.getD_some]
  exact h
def zPg0 : Pg := ⟨0, []⟩
def pgClear (p : Pg) (slot lsn : Int) : Option Pg := if 0 ≤ pgU p ∧ (0 ≤ slot ∧ slot < (p.slots.length : Int)) ∧ (1 ≤ lsn ∧ lsn ≤ 1000000) then some ⟨lsn, trimE (p.slots.set slot.toNat [])⟩ else none
theorem isLsn_ok (n : Int) (w : World) :
    Calls Try.prog 131 #[.int .i64 n] w fun e w' => e = .returned (.bool (decide (1 ≤ n) && decide (n ≤ 1000000))) ∧ Below w.heap.size w w' := by
  refine enter (args := [.one (.v (.int .i64 n))]) Try.func131 (c := bodyOf Try.f131) rfl rfl (start_LOK _) (start_old w) ?_
  refine gm [3] 0 (St.mk (Rg.sq [true, false] 1) [KI.code [true, true]] [(3, vI n)] []) ?_
  refine call_pure true (by kernel_rfl : atC _ _ _ true = some (55, [vI n, vI 1, vI 1000000], some 4, Rg.sq [true, false] 2)) (by kernel_rfl) (.one (.bo (decide (1 ≤ n) && decide (n ≤ 1000000)))) (fun L w1 hs => (Go.Proofs.Ytgleoebogikooaa.Dk.within_ok (n) (1) (1000000) w1)) ?_
  refine gm [2] 0 (St.mk Rg.no [KI.code [true, true]] [(2, vB (decide (1 ≤ n) && decide (n ≤ 1000000)))] []) ?_
  refine rtk [vB (decide (1 ≤ n) && decide (n ≤ 1000000))] ?_
  intro L w1 hs
  exact ⟨retB rfl, hs.out0⟩

theorem iPgClear_ok (p : Pg) (csp : List Value) (slot : Int) (lsn : Int) (w : World) (hp : kPg.rd w.heap p csp) (hl : p.slots.length ≤ 1048576) (hs1 : ∀ s ∈ p.slots, s.length ≤ 1048576) :
    Calls Try.prog 93 #[.agg csp.toArray, .int .i64 slot, .int .i64 lsn] w fun e w' => ∃ (B : Option Addr) (d : Nat), e = .returned (.tuple #[.agg #[.int .i64 ((pgClear p slot lsn).getD zPg0).lsn, .slice B ((pgClear p slot lsn).getD zPg0).slots.length d], .bool (pgClear p slot lsn).isSome]) ∧ Fresh w w' [rowA 40 (kRow 5 kU8) ((pgClear p slot lsn).getD zPg0).slots (.slice B ((pgClear p slot lsn).getD zPg0).slots.length d)] := by
  obtain ⟨Apslots, cpslots, rfl, hrpslots⟩ := kPg_inv hp
  refine enter (args := [.agg [.v (.int .i64 p.lsn), .v (.slice Apslots p.slots.length cpslots)], .one (.v (.int .i64 slot)), .one (.v (.int .i64 lsn))]) Try.func93 (c := bodyOf Try.f93) rfl rfl (start_LOK _) (start_old w) ?_
  have nf_1 : IntKind.i64.wrap ((p.slots.length : Int) - 1) = (p.slots.length : Int) - 1 := by rw [IntKind.wrap_i64]; omega
  by_cases hbad : ¬ (0 ≤ pgU p ∧ (0 ≤ slot ∧ slot < (p.slots.length : Int)) ∧ (1 ≤ lsn ∧ lsn ≤ 1000000))
  · have hno : pgClear p slot lsn = none := if_neg hbad
    have hu := pgU_bnd p
    refine gm [1, 2, 3, 6, 9] 2 (St.mk (Rg.sq (bitL 3 1) 1) [kCd (bitL 3 5), KI.code [true, true]] [(1, vI slot), (2, vI lsn), (3, vR 0 0), (6, vR 1 0), (9, SV.agg [cI p.lsn, cS Apslots p.slots.length cpslots])] [LB.mk [cI p.lsn, cS Apslots p.slots.length cpslots] 115, LB.mk [cI 0, cS none 0 0] 115]) ?_
    refine call_pure true (by kernel_rfl : atC _ _ _ true = some (80, [SV.agg [cI p.lsn, cS Apslots p.slots.length cpslots]], some 10, Rg.sq (bitL 3 1) 2)) (by kernel_rfl) (.one (.v (Value.int IntKind.i64 (pgU p)))) (fun L w1 hs => (Go.Proofs.Ytgleoebogikooaa.Dk.iPgUsed_ok (p) ([Value.int IntKind.i64 p.lsn, Value.slice Apslots p.slots.length cpslots]) w1 (Go.Proofs.Ytgleoebogikooaa.Dk.kPg_mk (rdRow_ext (hs.old 0 rfl) hrpslots)) (by assumption))) ?_
    refine gm [1, 2, 3, 6, 12] 2 (St.mk (Rg.sq (bitL 3 1) 4) [kCd (bitL 3 5), KI.code [true, true]] [(1, vI slot), (2, vI lsn), (3, vR 0 0), (6, vR 1 0), (12, vB (decide (pgU p < 0)))] [LB.mk [cI p.lsn, cS Apslots p.slots.length cpslots] 115, LB.mk [cI 0, cS none 0 0] 115]) ?_
    refine spl 12 (decide (pgU p < 0)) ?_ ?_
    · intro hb1
      replace hb1 := of_decide_eq_true hb1
      refine gm [6, 7] 2 (St.mk Rg.no [kCd (bitL 5 21), KI.code [true, true]] [(6, vR 1 0), (7, vL false)] [LB.mk [cI p.lsn, cS Apslots p.slots.length cpslots] 115, LB.mk [cI 0, cS none 0 0] 115]) ?_
      refine rtk [SV.agg [cI 0, cS none 0 0], vL false] ?_
      intro L w1 hs
      exact ⟨none, 0, by rw [hno]; rfl, by rw [hno]; exact hs.out1 rowA_nil⟩
    · intro hb1
      replace hb1 := of_decide_eq_false hb1
      refine gm [1, 2, 3, 6, 12, 13, 17] 2 (St.mk (Rg.sq (bitL 3 1) 9) [kCd (bitL 3 5), KI.code [true, true]] [(1, vI slot), (2, vI lsn), (3, vR 0 0), (6, vR 1 0), (12, vL false), (13, vI slot), (17, vI (IntKind.i64.wrap ((↑p.slots.length : Int) - 1)))] [LB.mk [cI p.lsn, cS Apslots p.slots.length cpslots] 115, LB.mk [cI 0, cS none 0 0] 115]) ?_
      try simp only [fl_ne_self, fl_eq_self, fl_eq0, fl_ne0, fl_gt0, fl_lt0, nf_1]
      refine call_pure true (by kernel_rfl : atC _ _ _ true = some (55, [vI slot, vI 0, vI ((↑p.slots.length : Int) - 1)], some 18, Rg.sq (bitL 3 1) 10)) (by kernel_rfl) (.one (.bo (decide (0 ≤ slot) && decide (slot ≤ (↑p.slots.length : Int) - 1)))) (fun L w1 hs => (Go.Proofs.Ytgleoebogikooaa.Dk.within_ok (slot) (0) ((↑p.slots.length : Int) - 1) w1)) ?_
      refine gm [1, 2, 3, 6, 21] 2 (St.mk (Rg.sq (bitL 3 1) 13) [kCd (bitL 3 5), KI.code [true, true]] [(1, vI slot), (2, vI lsn), (3, vR 0 0), (6, vR 1 0), (21, vB !(decide (0 ≤ slot) && decide (slot ≤ (↑p.slots.length : Int) - 1)))] [LB.mk [cI p.lsn, cS Apslots p.slots.length cpslots] 115, LB.mk [cI 0, cS none 0 0] 115]) ?_
      refine spl 21 (!(decide (0 ≤ slot) && decide (slot ≤ (↑p.slots.length : Int) - 1))) ?_ ?_
      · intro hb2
        try simp only [sbb] at hb2
        refine gm [6, 7] 2 (St.mk Rg.no [kCd (bitL 5 21), KI.code [true, true]] [(6, vR 1 0), (7, vL false)] [LB.mk [cI p.lsn, cS Apslots p.slots.length cpslots] 115, LB.mk [cI 0, cS none 0 0] 115]) ?_
        refine rtk [SV.agg [cI 0, cS none 0 0], vL false] ?_
        intro L w1 hs
        exact ⟨none, 0, by rw [hno]; rfl, by rw [hno]; exact hs.out1 rowA_nil⟩
      · intro hb2
        try simp only [sbb] at hb2
        refine gm [1, 2, 3, 6, 21, 22] 2 (St.mk (Rg.sq (bitL 3 1) 14) [kCd (bitL 3 5), KI.code [true, true]] [(1, vI slot), (2, vI lsn), (3, vR 0 0), (6, vR 1 0), (21, vL false), (22, vI lsn)] [LB.mk [cI p.lsn, cS Apslots p.slots.length cpslots] 115, LB.mk [cI 0, cS none 0 0] 115]) ?_
        refine call_pure true (by kernel_rfl : atC _ _ _ true = some (131, [vI lsn], some 23, Rg.sq (bitL 3 1) 15)) (by kernel_rfl) (.one (.bo (decide (1 ≤ lsn) && decide (lsn ≤ 1000000)))) (fun L w1 hs => (Go.Proofs.Ytgleoebogikooaa.Dk.isLsn_ok (lsn) w1)) ?_
        refine gm [1, 2, 3, 6, 25] 2 (St.mk Rg.no [kCd (bitL 3 5), KI.code [true, true]] [(1, vI slot), (2, vI lsn), (3, vR 0 0), (6, vR 1 0), (25, vB !(decide (1 ≤ lsn) && decide (lsn ≤ 1000000)))] [LB.mk [cI p.lsn, cS Apslots p.slots.length cpslots] 115, LB.mk [cI 0, cS none 0 0] 115]) ?_
        refine spl 25 (!(decide (1 ≤ lsn) && decide (lsn ≤ 1000000))) ?_ ?_
        · intro hb3
          try simp only [sbb] at hb3
          refine gm [6, 7] 2 (St.mk Rg.no [kCd (bitL 5 21), KI.code [true, true]] [(6, vR 1 0), (7, vL false)] [LB.mk [cI p.lsn, cS Apslots p.slots.length cpslots] 115, LB.mk [cI 0, cS none 0 0] 115]) ?_
          refine rtk [SV.agg [cI 0, cS none 0 0], vL false] ?_
          intro L w1 hs
          exact ⟨none, 0, by rw [hno]; rfl, by rw [hno]; exact hs.out1 rowA_nil⟩
        · intro hb3
          try simp only [sbb] at hb3
          (exfalso; omega)
  replace hbad := Classical.not_not.1 hbad
  have hyes : pgClear p slot lsn = some ⟨lsn, trimE (p.slots.set slot.toNat [])⟩ := if_pos hbad
  obtain ⟨hu, hsl, hln⟩ := hbad
  refine gm [1, 2, 3, 6, 9] 2 (St.mk (Rg.sq (bitL 3 1) 1) [kCd (bitL 3 5), KI.code [true, true]] [(1, vI slot), (2, vI lsn), (3, vR 0 0), (6, vR 1 0), (9, SV.agg [cI p.lsn, cS Apslots p.slots.length cpslots])] [LB.mk [cI p.lsn, cS Apslots p.slots.length cpslots] 115, LB.mk [cI 0, cS none 0 0] 115]) ?_
  refine call_pure true (by kernel_rfl : atC _ _ _ true = some (80, [SV.agg [cI p.lsn, cS Apslots p.slots.length cpslots]], some 10, Rg.sq (bitL 3 1) 2)) (by kernel_rfl) (.one (.v (Value.int IntKind.i64 (pgU p)))) (fun L w1 hs => (Go.Proofs.Ytgleoebogikooaa.Dk.iPgUsed_ok (p) ([Value.int IntKind.i64 p.lsn, Value.slice Apslots p.slots.length cpslots]) w1 (Go.Proofs.Ytgleoebogikooaa.Dk.kPg_mk (rdRow_ext (hs.old 0 rfl) hrpslots)) (by assumption))) ?_
  refine gm [1, 2, 3, 6, 12] 2 (St.mk (Rg.sq (bitL 3 1) 4) [kCd (bitL 3 5), KI.code [true, true]] [(1, vI slot), (2, vI lsn), (3, vR 0 0), (6, vR 1 0), (12, vB (decide (pgU p < 0)))] [LB.mk [cI p.lsn, cS Apslots p.slots.length cpslots] 115, LB.mk [cI 0, cS none 0 0] 115]) ?_
  refine spl 12 (decide (pgU p < 0)) ?_ ?_
  · intro hb1
    replace hb1 := of_decide_eq_true hb1
    (exfalso; omega)
  intro hb1
  replace hb1 := of_decide_eq_false hb1
  refine gm [1, 2, 3, 6, 12, 13, 17] 2 (St.mk (Rg.sq (bitL 3 1) 9) [kCd (bitL 3 5), KI.code [true, true]] [(1, vI slot), (2, vI lsn), (3, vR 0 0), (6, vR 1 0), (12, vL false), (13, vI slot), (17, vI (IntKind.i64.wrap ((↑p.slots.length : Int) - 1)))] [LB.mk [cI p.lsn, cS Apslots p.slots.length cpslots] 115, LB.mk [cI 0, cS none 0 0] 115]) ?_
  try simp only [fl_ne_self, fl_eq_self, fl_eq0, fl_ne0, fl_gt0, fl_lt0, nf_1]
  refine call_pure true (by kernel_rfl : atC _ _ _ true = some (55, [vI slot, vI 0, vI ((↑p.slots.length : Int) - 1)], some 18, Rg.sq (bitL 3 1) 10)) (by kernel_rfl) (.one (.bo (decide (0 ≤ slot) && decide (slot ≤ (↑p.slots.length : Int) - 1)))) (fun L w1 hs => (Go.Proofs.Ytgleoebogikooaa.Dk.within_ok (slot) (0) ((↑p.slots.length : Int) - 1) w1)) ?_
  refine gm [1, 2, 3, 6, 21] 2 (St.mk (Rg.sq (bitL 3 1) 13) [kCd (bitL 3 5), KI.code [true, true]] [(1, vI slot), (2, vI lsn), (3, vR 0 0), (6, vR 1 0), (21, vB !(decide (0 ≤ slot) && decide (slot ≤ (↑p.slots.length : Int) - 1)))] [LB.mk [cI p.lsn, cS Apslots p.slots.length cpslots] 115, LB.mk [cI 0, cS none 0 0] 115]) ?_
  refine spl 21 (!(decide (0 ≤ slot) && decide (slot ≤ (↑p.slots.length : Int) - 1))) ?_ ?_
  · intro hb2
    try simp only [sbb] at hb2
    (exfalso; omega)
  intro hb2
  try simp only [sbb] at hb2
  refine gm [1, 2, 3, 6, 21, 22] 2 (St.mk (Rg.sq (bitL 3 1) 14) [kCd (bitL 3 5), KI.code [true, true]] [(1, vI slot), (2, vI lsn), (3, vR 0 0), (6, vR 1 0), (21, vL false), (22, vI lsn)] [LB.mk [cI p.lsn, cS Apslots p.slots.length cpslots] 115, LB.mk [cI 0, cS none 0 0] 115]) ?_
  refine call_pure true (by kernel_rfl : atC _ _ _ true = some (131, [vI lsn], some 23, Rg.sq (bitL 3 1) 15)) (by kernel_rfl) (.one (.bo (decide (1 ≤ lsn) && decide (lsn ≤ 1000000)))) (fun L w1 hs => (Go.Proofs.Ytgleoebogikooaa.Dk.isLsn_ok (lsn) w1)) ?_
  refine gm [1, 2, 3, 6, 25] 2 (St.mk Rg.no [kCd (bitL 3 5), KI.code [true, true]] [(1, vI slot), (2, vI lsn), (3, vR 0 0), (6, vR 1 0), (25, vB !(decide (1 ≤ lsn) && decide (lsn ≤ 1000000)))] [LB.mk [cI p.lsn, cS Apslots p.slots.length cpslots] 115, LB.mk [cI 0, cS none 0 0] 115]) ?_
  refine spl 25 (!(decide (1 ≤ lsn) && decide (lsn ≤ 1000000))) ?_ ?_
  · intro hb3
    try simp only [sbb] at hb3
    (exfalso; omega)
  intro hb3
  try simp only [sbb] at hb3
  refine gm [1, 6, 27, 28] 2 (St.mk (Rg.sq (bitL 3 3) 2) [kCd (bitL 3 7)] [(1, vI slot), (6, vR 1 0), (27, vI lsn), (28, SV.agg [cI p.lsn, cS Apslots p.slots.length cpslots])] [LB.mk [cI p.lsn, cS Apslots p.slots.length cpslots] 115, LB.mk [cI 0, cS none 0 0] 115]) ?_
  refine call_at true (by kernel_rfl : atC _ _ _ true = some (132, [SV.agg [cI p.lsn, cS Apslots p.slots.length cpslots]], some 29, Rg.sq (bitL 3 3) 3)) (by kernel_rfl) (fun L w1 hs => (Go.Proofs.Ytgleoebogikooaa.Dk.iSlots_ok (p) ([Value.int IntKind.i64 p.lsn, Value.slice Apslots p.slots.length cpslots]) w1 (Go.Proofs.Ytgleoebogikooaa.Dk.kPg_mk (rdRow_ext (hs.old 0 rfl) hrpslots)) (by assumption) (by assumption)).mono ?_)
  rintro e_ w2_ ⟨B_1, d_1, rfl, hf_⟩
  refine ⟨.one (.v (Value.slice B_1 p.slots.length d_1)), _, _, rfl, fun _ => hf_.1.block, hs.fresh hf_, ?_⟩
  clear hs hf_
  refine gm [6, 8, 32, 33] 3 (St.mk (Rg.sq (bitL 4 7) 3) [kCd (bitL 4 15)] [(6, vR 1 0), (8, vR 2 0), (32, vS B_1 p.slots.length d_1), (33, vI slot)] [LB.mk [cI p.lsn, cS Apslots p.slots.length cpslots] 115, LB.mk [cI 0, cS none 0 0] 115, LB.mk [cI lsn, cS B_1 p.slots.length d_1] 115]) ?_
  refine index_at 3 (by kernel_rfl : atP _ _ _ 3 false = some (Op.indexAddr 113 (tmpO 32) (tmpO 33), 0, some 34, Rg.sq (bitL 4 7) 4)) (ni := slot.toNat) (sz := 1) (by kernel_rfl) rfl rfl (by omega) (by omega) (fun L w1 hs => rd_some (i := slot.toNat) (hs.rd 0 rfl) (by omega)) ?_
  intro a_1 ha_1
  cases ha_1
  refine gm [6, 8, 34] 3 (St.mk (Rg.sq (bitL 4 7) 4) [kCd (bitL 4 15)] [(6, vR 1 0), (8, vR 2 0), (34, vP (a_1.add (slot.toNat * 1)))] [LB.mk [cI p.lsn, cS Apslots p.slots.length cpslots] 115, LB.mk [cI 0, cS none 0 0] 115, LB.mk [cI lsn, cS (some a_1) p.slots.length d_1] 115]) ?_
  refine h_own_g (by omega) (fun g hA => ?_)
  cases hA
  refine h_own_cap (fun hcap => ?_)
  refine store_el (A := []) (d := (kRow 5 kU8)) (i := slot.toNat) (y := []) (by kernel_rfl : atB _ _ _ false = some (Op.store 40 (tmpO 34) (Operand.const (Value.slice none 0 0)), 0, none, Rg.sq (bitL 4 7) 5)) (by kernel_rfl) rfl rfl rfl rfl rfl (by omega) (fun h S hA => ⟨_, rfl, owRow_nil⟩) ?_
  refine gm [6, 8] 3 (St.mk Rg.no [kLp (bitL 7 111), KI.block 0, kCd (bitL 5 31)] [(6, vR 1 0), (8, vR 2 0)] [LB.mk [cI p.lsn, cS Apslots p.slots.length cpslots] 115, LB.mk [cI 0, cS none 0 0] 115, LB.mk [cI lsn, cS (some (Addr.mk g 0 none)) p.slots.length d_1] 115]) ?_
  obtain ⟨ys, hys⟩ : ∃ ys, ys = p.slots.set slot.toNat [] := ⟨_, rfl⟩
  have hyl : ys.length = p.slots.length := by rw [hys, List.length_set]
  rw [← hys, ← hyl]
  rw [← hys] at hyes
  refine gm [6, 8] 3 (St.mk Rg.no [kLp (bitL 7 111), KI.block 0, kCd (bitL 5 31)] [(6, vR 1 0), (8, vR 2 0)] [LB.mk [cI p.lsn, cS Apslots ys.length cpslots] 115, LB.mk [cI 0, cS none 0 0] 115, LB.mk [cI lsn, cS (some (Addr.mk g 0 none)) ys.length d_1] 115]) ?_
  refine loop_at (ι := Nat) (fun _ => []) (fun m => [(2, ⟨[.v (.int .i64 lsn), .v (.slice (some ⟨g, 0, none⟩) m d_1)], 115⟩)]) (fun m => [rowA 40 (kRow 5 kU8) (ys.take m) (.slice (some ⟨g, 0, none⟩) m d_1), oldA w]) (fun m => m ≤ ys.length ∧ trimN ys ys.length = trimN ys m) (fun m => m) ys.length rfl rfl (by rw [List.take_length]) ⟨Nat.le_refl _, rfl⟩ ?_
  rintro m ⟨hm, htr⟩ ih
  rcases Nat.eq_zero_or_pos m with rfl | hm0
  · have hte : trimE ys = [] := by unfold trimE; rw [htr]; rfl
    refine gm [6, 8, 39] 3 (St.mk (Rg.sq (bitL 9 111) 5) [kCd (bitL 9 367), kCd (bitL 8 239), kLp (bitL 7 111), KI.block 0, kCd (bitL 5 31)] [(6, vR 1 0), (8, vR 2 0), (39, vB false)] [LB.mk [cI p.lsn, cS Apslots ys.length cpslots] 115, LB.mk [cI 0, cS none 0 0] 115, LB.mk [cI lsn, cS (some (Addr.mk g 0 none)) 0 d_1] 115]) ?_
    refine ltk 39 false ?_
    refine gm [6, 7] 2 (St.mk Rg.no [kCd (bitL 6 63)] [(6, vR 1 0), (7, vL true)] [LB.mk [cI p.lsn, cS Apslots ys.length cpslots] 115, LB.mk [cI lsn, cS (some (Addr.mk g 0 none)) 0 d_1] 115]) ?_
    refine rtk [SV.agg [cI lsn, cS (some (Addr.mk g 0 none)) 0 d_1], vL true] ?_
    intro L w1 hs
    exact ⟨_, _, by rw [hyes]; show _ = Ending.returned (.tuple #[.agg #[.int .i64 lsn, .slice _ (trimE ys).length _], .bool true]); rw [hte]; rfl, by rw [hyes]; show Fresh _ _ [rowA 40 (kRow 5 kU8) (trimE ys) (.slice _ (trimE ys).length _)]; rw [hte]; exact hs.out (As := [_])⟩
  have hm1 : m - 1 < ys.length := by omega
  have htk : (ys.take m).length = m := by rw [List.length_take]; omega
  have hm2 : m - 1 < (ys.take m).length := by omega
  have nf_2 : IntKind.i64.wrap ((m : Int) - 1) = ((m - 1 : Nat) : Int) := by rw [IntKind.wrap_i64]; omega
  refine gm [6, 8, 39] 3 (St.mk (Rg.sq (bitL 9 111) 5) [kCd (bitL 9 367), kCd (bitL 8 239), kLp (bitL 7 111), KI.block 0, kCd (bitL 5 31)] [(6, vR 1 0), (8, vR 2 0), (39, vB (decide ((↑m : Int) > 0)))] [LB.mk [cI p.lsn, cS Apslots ys.length cpslots] 115, LB.mk [cI 0, cS none 0 0] 115, LB.mk [cI lsn, cS (some (Addr.mk g 0 none)) m d_1] 115]) ?_
  refine spl 39 (decide ((↑m : Int) > 0)) ?_ ?_
  rotate_left
  · intro hb4
    replace hb4 := of_decide_eq_false hb4
    (exfalso; omega)
  intro hb4
  replace hb4 := of_decide_eq_true hb4
  refine gm [6, 8, 39, 41, 45] 3 (St.mk (Rg.sq (bitL 9 111) 11) [kCd (bitL 9 367), kCd (bitL 8 239), kLp (bitL 7 111), KI.block 0, kCd (bitL 5 31)] [(6, vR 1 0), (8, vR 2 0), (39, vL true), (41, vS (some (Addr.mk g 0 none)) m d_1), (45, vI (IntKind.i64.wrap ((↑m : Int) - 1)))] [LB.mk [cI p.lsn, cS Apslots ys.length cpslots] 115, LB.mk [cI 0, cS none 0 0] 115, LB.mk [cI lsn, cS (some (Addr.mk g 0 none)) m d_1] 115]) ?_
  try simp only [fl_ne_self, fl_eq_self, fl_eq0, fl_ne0, fl_gt0, fl_lt0, nf_1, nf_2]
  refine index_at 11 (by kernel_rfl : atP _ _ _ 11 false = some (Op.indexAddr 113 (tmpO 41) (tmpO 45), 0, some 46, Rg.sq (bitL 9 111) 12)) (ni := m - 1) (sz := 1) (by kernel_rfl) rfl rfl rfl (by omega) (fun L w1 hs => rd_some (i := m - 1) (hs.rd 0 rfl) (by omega)) ?_
  intro a_1 ha_1
  cases ha_1
  refine gm [6, 8, 39, 46] 3 (St.mk (Rg.sq (bitL 9 111) 12) [kCd (bitL 9 367), kCd (bitL 8 239), kLp (bitL 7 111), KI.block 0, kCd (bitL 5 31)] [(6, vR 1 0), (8, vR 2 0), (39, vL true), (46, vP ((Addr.mk g 0 none).add ((m - 1) * 1)))] [LB.mk [cI p.lsn, cS Apslots ys.length cpslots] 115, LB.mk [cI 0, cS none 0 0] 115, LB.mk [cI lsn, cS (some (Addr.mk g 0 none)) m d_1] 115]) ?_
  refine load_one 12 (by kernel_rfl : atP _ _ _ 12 true = some (Op.load 40 (tmpO 46), 40, some 47, Rg.sq (bitL 9 111) 13)) (n := 1) (by kernel_rfl) rfl ?_
  intro L w1 hs
  obtain ⟨Ai, ci, hcell, hrow⟩ := rd_row (i := m - 1) (hs.rd 0 rfl) hm2
  clear hrow
  refine ⟨.v (.slice Ai ((ys.take m)[m - 1]'hm2).length ci), hcell, ?_⟩
  clear hs hcell
  rw [List.getElem_take]
  by_cases hem : ys[m - 1].length = 0
  · have nf_3 : ((ys[m - 1].length : Int) == 0) = true := by rw [hem]; rfl
    refine gm [6, 8, 50] 3 (St.mk Rg.no [kCd (bitL 9 367), kCd (bitL 8 239), kLp (bitL 7 111), KI.block 0, kCd (bitL 5 31)] [(6, vR 1 0), (8, vR 2 0), (50, vB ((↑ys[m - 1].length : Int) == 0))] [LB.mk [cI p.lsn, cS Apslots ys.length cpslots] 115, LB.mk [cI 0, cS none 0 0] 115, LB.mk [cI lsn, cS (some (Addr.mk g 0 none)) m d_1] 115]) ?_
    try simp only [fl_ne_self, fl_eq_self, fl_eq0, fl_ne0, fl_gt0, fl_lt0, nf_1, nf_2, nf_3]
    refine gm [6, 8, 50] 3 (St.mk Rg.no [kCd (bitL 9 367), kCd (bitL 8 239), kLp (bitL 7 111), KI.block 0, kCd (bitL 5 31)] [(6, vR 1 0), (8, vR 2 0), (50, vB true)] [LB.mk [cI p.lsn, cS Apslots ys.length cpslots] 115, LB.mk [cI 0, cS none 0 0] 115, LB.mk [cI lsn, cS (some (Addr.mk g 0 none)) m d_1] 115]) ?_
    refine ltk 50 true ?_
    refine gm [6, 8, 52, 56] 3 (St.mk (Rg.sq (bitL 9 495) 6) [KI.block 1, kLp (bitL 7 111), KI.block 0, kCd (bitL 5 31)] [(6, vR 1 0), (8, vR 2 0), (52, vS (some (Addr.mk g 0 none)) m d_1), (56, vI (IntKind.i64.wrap ((↑m : Int) - 1)))] [LB.mk [cI p.lsn, cS Apslots ys.length cpslots] 115, LB.mk [cI 0, cS none 0 0] 115, LB.mk [cI lsn, cS (some (Addr.mk g 0 none)) m d_1] 115]) ?_
    try simp only [fl_ne_self, fl_eq_self, fl_eq0, fl_ne0, fl_gt0, fl_lt0, nf_1, nf_2, nf_3]
    refine slice_at 6 (l := 0) (h := m - 1) (m := d_1) (sz := 1) (by kernel_rfl : atP _ _ _ 6 false = some (Op.slice 113 (tmpO 52) none (some (tmpO 56)) none, 113, some 57, Rg.sq (bitL 9 495) 7)) (by kernel_rfl) rfl rfl ⟨_, rfl⟩ rfl (by decide) (Nat.zero_le _) (by omega) (Nat.le_refl _) ?_
    generalize hA2 : (if d_1 = 0 then (some ⟨g, 0, none⟩ : Option Addr) else (some ⟨g, 0, none⟩ : Option Addr).map (·.add (0 * 1))) = A2
    obtain rfl : A2 = some ⟨g, 0, none⟩ := by rw [← hA2, if_neg (by omega)]; rfl
    clear hA2
    rw [Nat.sub_zero, Nat.sub_zero]
    refine gm [6, 8] 3 (St.mk Rg.no [kLp (bitL 7 111), KI.block 0, kCd (bitL 5 31)] [(6, vR 1 0), (8, vR 2 0)] [LB.mk [cI p.lsn, cS Apslots ys.length cpslots] 115, LB.mk [cI 0, cS none 0 0] 115, LB.mk [cI lsn, cS (some (Addr.mk g 0 none)) (m - 1) d_1] 115]) ?_
    refine h_turn (A := [_]) (B := [rowA 40 (kRow 5 kU8) (ys.take (m - 1)) (.slice (some ⟨g, 0, none⟩) (m - 1) d_1)]) (fun h S ho => ⟨S, fun _ => False, fun _ h => h, fun _ h => h.elim, fun _ _ h => h, rowA_holds.2 (by have h9 := owRow_take (rowA_holds.1 (sepL_one ho)) (show m - 1 ≤ m by omega); rw [List.take_take, Nat.min_eq_left (by omega)] at h9; exact h9), trivial⟩) ?_
    exact ih (m - 1) ⟨by omega, htr.trans (trimN_go hm0 hm1 hem)⟩ (by omega)
  have nf_3 : ((ys[m - 1].length : Int) == 0) = false := beq_eq_false_iff_ne.2 (by omega)
  have hst := htr.trans (trimN_stop hm0 hm1 hem)
  have hte : trimE ys = ys.take m := by unfold trimE; rw [hst]
  refine gm [6, 8, 50] 3 (St.mk Rg.no [kCd (bitL 9 367), kCd (bitL 8 239), kLp (bitL 7 111), KI.block 0, kCd (bitL 5 31)] [(6, vR 1 0), (8, vR 2 0), (50, vB ((↑ys[m - 1].length : Int) == 0))] [LB.mk [cI p.lsn, cS Apslots ys.length cpslots] 115, LB.mk [cI 0, cS none 0 0] 115, LB.mk [cI lsn, cS (some (Addr.mk g 0 none)) m d_1] 115]) ?_
  try simp only [fl_ne_self, fl_eq_self, fl_eq0, fl_ne0, fl_gt0, fl_lt0, nf_1, nf_2, nf_3]
  refine gm [6, 8, 50] 3 (St.mk Rg.no [kCd (bitL 9 367), kCd (bitL 8 239), kLp (bitL 7 111), KI.block 0, kCd (bitL 5 31)] [(6, vR 1 0), (8, vR 2 0), (50, vB false)] [LB.mk [cI p.lsn, cS Apslots ys.length cpslots] 115, LB.mk [cI 0, cS none 0 0] 115, LB.mk [cI lsn, cS (some (Addr.mk g 0 none)) m d_1] 115]) ?_
  refine ltk 50 false ?_
  refine gm [6, 7] 2 (St.mk Rg.no [kCd (bitL 6 63)] [(6, vR 1 0), (7, vL true)] [LB.mk [cI p.lsn, cS Apslots ys.length cpslots] 115, LB.mk [cI lsn, cS (some (Addr.mk g 0 none)) m d_1] 115]) ?_
  refine rtk [SV.agg [cI lsn, cS (some (Addr.mk g 0 none)) m d_1], vL true] ?_
  intro L w1 hs
  exact ⟨some ⟨g, 0, none⟩, d_1, by rw [hyes]; show _ = Ending.returned (.tuple #[.agg #[.int .i64 lsn, .slice _ (trimE ys).length _], .bool true]); rw [hte, htk]; rfl, by rw [hyes]; show Fresh _ _ [rowA 40 (kRow 5 kU8) (trimE ys) (.slice _ (trimE ys).length _)]; rw [hte, htk]; exact hs.out (As := [_])⟩

theorem sPgClear_ok (p : Pg) (csp : List Value) (slot : Int) (lsn : Int) (w : World) (hp : kPg.rd w.heap p csp) (hl : p.slots.length ≤ 1048576) (hs1 : ∀ s ∈ p.slots, s.length ≤ 1048576) :
    Calls Try.prog 92 #[.agg csp.toArray, .int .i64 slot, .int .i64 lsn] w fun e w' => ∃ (B : Option Addr) (d : Nat), e = .returned (.tuple #[.agg #[.int .i64 ((pgClear p slot lsn).getD zPg0).lsn, .slice B ((pgClear p slot lsn).getD zPg0).slots.length d], .bool (pgClear p slot lsn).isSome]) ∧ Fresh w w' [rowA 40 (kRow 5 kU8) ((pgClear p slot lsn).getD zPg0).slots (.slice B ((pgClear p slot lsn).getD zPg0).slots.length d)] := by
  obtain ⟨Apslots, cpslots, rfl, hrpslots⟩ := kPg_inv hp
  refine enter (args := [.agg [.v (.int .i64 p.lsn), .v (.slice Apslots p.slots.length cpslots)], .one (.v (.int .i64 slot)), .one (.v (.int .i64 lsn))]) Try.func92 (c := bodyOf Try.f92) rfl rfl (start_LOK _) (start_old w) ?_
  have nf_1 : IntKind.i64.wrap ((p.slots.length : Int) - 1) = (p.slots.length : Int) - 1 := by rw [IntKind.wrap_i64]; omega
  by_cases hbad : ¬ (0 ≤ pgU p ∧ (0 ≤ slot ∧ slot < (p.slots.length : Int)) ∧ (1 ≤ lsn ∧ lsn ≤ 1000000))
  · have hno : pgClear p slot lsn = none := if_neg hbad
    have hu := pgU_bnd p
    refine gm [1, 2, 3, 6, 9] 2 (St.mk (Rg.sq (bitL 3 1) 1) [kCd (bitL 3 5), KI.code [true, true]] [(1, vI slot), (2, vI lsn), (3, vR 0 0), (6, vR 1 0), (9, SV.agg [cI p.lsn, cS Apslots p.slots.length cpslots])] [LB.mk [cI p.lsn, cS Apslots p.slots.length cpslots] 115, LB.mk [cI 0, cS none 0 0] 115]) ?_
    refine call_pure true (by kernel_rfl : atC _ _ _ true = some (75, [SV.agg [cI p.lsn, cS Apslots p.slots.length cpslots]], some 10, Rg.sq (bitL 3 1) 2)) (by kernel_rfl) (.one (.v (Value.int IntKind.i64 (pgU p)))) (fun L w1 hs => (Go.Proofs.Ytgleoebogikooaa.Dk.sPgUsed_ok (p) ([Value.int IntKind.i64 p.lsn, Value.slice Apslots p.slots.length cpslots]) w1 (Go.Proofs.Ytgleoebogikooaa.Dk.kPg_mk (rdRow_ext (hs.old 0 rfl) hrpslots)) (by assumption))) ?_
    refine gm [1, 2, 3, 6, 12] 2 (St.mk (Rg.sq (bitL 3 1) 4) [kCd (bitL 3 5), KI.code [true, true]] [(1, vI slot), (2, vI lsn), (3, vR 0 0), (6, vR 1 0), (12, vB (decide (pgU p < 0)))] [LB.mk [cI p.lsn, cS Apslots p.slots.length cpslots] 115, LB.mk [cI 0, cS none 0 0] 115]) ?_
    refine spl 12 (decide (pgU p < 0)) ?_ ?_
    · intro hb1
      replace hb1 := of_decide_eq_true hb1
      refine gm [6, 7] 2 (St.mk Rg.no [kCd (bitL 5 21), KI.code [true, true]] [(6, vR 1 0), (7, vL false)] [LB.mk [cI p.lsn, cS Apslots p.slots.length cpslots] 115, LB.mk [cI 0, cS none 0 0] 115]) ?_
      refine rtk [SV.agg [cI 0, cS none 0 0], vL false] ?_
      intro L w1 hs
      exact ⟨none, 0, by rw [hno]; rfl, by rw [hno]; exact hs.out1 rowA_nil⟩
    · intro hb1
      replace hb1 := of_decide_eq_false hb1
      refine gm [1, 2, 3, 6, 12, 13, 17] 2 (St.mk (Rg.sq (bitL 3 1) 9) [kCd (bitL 3 5), KI.code [true, true]] [(1, vI slot), (2, vI lsn), (3, vR 0 0), (6, vR 1 0), (12, vL false), (13, vI slot), (17, vI (IntKind.i64.wrap ((↑p.slots.length : Int) - 1)))] [LB.mk [cI p.lsn, cS Apslots p.slots.length cpslots] 115, LB.mk [cI 0, cS none 0 0] 115]) ?_
      try simp only [fl_ne_self, fl_eq_self, fl_eq0, fl_ne0, fl_gt0, fl_lt0, nf_1]
      refine call_pure true (by kernel_rfl : atC _ _ _ true = some (85, [vI slot, vI 0, vI ((↑p.slots.length : Int) - 1)], some 18, Rg.sq (bitL 3 1) 10)) (by kernel_rfl) (.one (.bo (decide (0 ≤ slot) && decide (slot ≤ (↑p.slots.length : Int) - 1)))) (fun L w1 hs => (Go.Proofs.Ytgleoebogikooaa.Dk.l5in_ok (slot) (0) ((↑p.slots.length : Int) - 1) w1)) ?_
      refine gm [1, 2, 3, 6, 21] 2 (St.mk (Rg.sq (bitL 3 1) 13) [kCd (bitL 3 5), KI.code [true, true]] [(1, vI slot), (2, vI lsn), (3, vR 0 0), (6, vR 1 0), (21, vB !(decide (0 ≤ slot) && decide (slot ≤ (↑p.slots.length : Int) - 1)))] [LB.mk [cI p.lsn, cS Apslots p.slots.length cpslots] 115, LB.mk [cI 0, cS none 0 0] 115]) ?_
      refine spl 21 (!(decide (0 ≤ slot) && decide (slot ≤ (↑p.slots.length : Int) - 1))) ?_ ?_
      · intro hb2
        try simp only [sbb] at hb2
        refine gm [6, 7] 2 (St.mk Rg.no [kCd (bitL 5 21), KI.code [true, true]] [(6, vR 1 0), (7, vL false)] [LB.mk [cI p.lsn, cS Apslots p.slots.length cpslots] 115, LB.mk [cI 0, cS none 0 0] 115]) ?_
        refine rtk [SV.agg [cI 0, cS none 0 0], vL false] ?_
        intro L w1 hs
        exact ⟨none, 0, by rw [hno]; rfl, by rw [hno]; exact hs.out1 rowA_nil⟩
      · intro hb2
        try simp only [sbb] at hb2
        refine gm [1, 2, 3, 6, 21, 22] 2 (St.mk (Rg.sq (bitL 3 1) 14) [kCd (bitL 3 5), KI.code [true, true]] [(1, vI slot), (2, vI lsn), (3, vR 0 0), (6, vR 1 0), (21, vL false), (22, vI lsn)] [LB.mk [cI p.lsn, cS Apslots p.slots.length cpslots] 115, LB.mk [cI 0, cS none 0 0] 115]) ?_
        refine call_pure true (by kernel_rfl : atC _ _ _ true = some (85, [vI lsn, vI 1, vI 1000000], some 23, Rg.sq (bitL 3 1) 15)) (by kernel_rfl) (.one (.bo (decide (1 ≤ lsn) && decide (lsn ≤ 1000000)))) (fun L w1 hs => (Go.Proofs.Ytgleoebogikooaa.Dk.l5in_ok (lsn) (1) (1000000) w1)) ?_
        refine gm [1, 2, 3, 6, 25] 2 (St.mk Rg.no [kCd (bitL 3 5), KI.code [true, true]] [(1, vI slot), (2, vI lsn), (3, vR 0 0), (6, vR 1 0), (25, vB !(decide (1 ≤ lsn) && decide (lsn ≤ 1000000)))] [LB.mk [cI p.lsn, cS Apslots p.slots.length cpslots] 115, LB.mk [cI 0, cS none 0 0] 115]) ?_
        refine spl 25 (!(decide (1 ≤ lsn) && decide (lsn ≤ 1000000))) ?_ ?_
        · intro hb3
          try simp only [sbb] at hb3
          refine gm [6, 7] 2 (St.mk Rg.no [kCd (bitL 5 21), KI.code [true, true]] [(6, vR 1 0), (7, vL false)] [LB.mk [cI p.lsn, cS Apslots p.slots.length cpslots] 115, LB.mk [cI 0, cS none 0 0] 115]) ?_
          refine rtk [SV.agg [cI 0, cS none 0 0], vL false] ?_
          intro L w1 hs
          exact ⟨none, 0, by rw [hno]; rfl, by rw [hno]; exact hs.out1 rowA_nil⟩
        · intro hb3
          try simp only [sbb] at hb3
          (exfalso; omega)
  replace hbad := Classical.not_not.1 hbad
  have hyes : pgClear p slot lsn = some ⟨lsn, trimE (p.slots.set slot.toNat [])⟩ := if_pos hbad
  obtain ⟨hu, hsl, hln⟩ := hbad
  refine gm [1, 2, 3, 6, 9] 2 (St.mk (Rg.sq (bitL 3 1) 1) [kCd (bitL 3 5), KI.code [true, true]] [(1, vI slot), (2, vI lsn), (3, vR 0 0), (6, vR 1 0), (9, SV.agg [cI p.lsn, cS Apslots p.slots.length cpslots])] [LB.mk [cI p.lsn, cS Apslots p.slots.length cpslots] 115, LB.mk [cI 0, cS none 0 0] 115]) ?_
  refine call_pure true (by kernel_rfl : atC _ _ _ true = some (75, [SV.agg [cI p.lsn, cS Apslots p.slots.length cpslots]], some 10, Rg.sq (bitL 3 1) 2)) (by kernel_rfl) (.one (.v (Value.int IntKind.i64 (pgU p)))) (fun L w1 hs => (Go.Proofs.Ytgleoebogikooaa.Dk.sPgUsed_ok (p) ([Value.int IntKind.i64 p.lsn, Value.slice Apslots p.slots.length cpslots]) w1 (Go.Proofs.Ytgleoebogikooaa.Dk.kPg_mk (rdRow_ext (hs.old 0 rfl) hrpslots)) (by assumption))) ?_
  refine gm [1, 2, 3, 6, 12] 2 (St.mk (Rg.sq (bitL 3 1) 4) [kCd (bitL 3 5), KI.code [true, true]] [(1, vI slot), (2, vI lsn), (3, vR 0 0), (6, vR 1 0), (12, vB (decide (pgU p < 0)))] [LB.mk [cI p.lsn, cS Apslots p.slots.length cpslots] 115, LB.mk [cI 0, cS none 0 0] 115]) ?_
  refine spl 12 (decide (pgU p < 0)) ?_ ?_
  · intro hb1
    replace hb1 := of_decide_eq_true hb1
    (exfalso; omega)
  intro hb1
  replace hb1 := of_decide_eq_false hb1
  refine gm [1, 2, 3, 6, 12, 13, 17] 2 (St.mk (Rg.sq (bitL 3 1) 9) [kCd (bitL 3 5), KI.code [true, true]] [(1, vI slot), (2, vI lsn), (3, vR 0 0), (6, vR 1 0), (12, vL false), (13, vI slot), (17, vI (IntKind.i64.wrap ((↑p.slots.length : Int) - 1)))] [LB.mk [cI p.lsn, cS Apslots p.slots.length cpslots] 115, LB.mk [cI 0, cS none 0 0] 115]) ?_
  try simp only [fl_ne_self, fl_eq_self, fl_eq0, fl_ne0, fl_gt0, fl_lt0, nf_1]
  refine call_pure true (by kernel_rfl : atC _ _ _ true = some (85, [vI slot, vI 0, vI ((↑p.slots.length : Int) - 1)], some 18, Rg.sq (bitL 3 1) 10)) (by kernel_rfl) (.one (.bo (decide (0 ≤ slot) && decide (slot ≤ (↑p.slots.length : Int) - 1)))) (fun L w1 hs => (Go.Proofs.Ytgleoebogikooaa.Dk.l5in_ok (slot) (0) ((↑p.slots.length : Int) - 1) w1)) ?_
  refine gm [1, 2, 3, 6, 21] 2 (St.mk (Rg.sq (bitL 3 1) 13) [kCd (bitL 3 5), KI.code [true, true]] [(1, vI slot), (2, vI lsn), (3, vR 0 0), (6, vR 1 0), (21, vB !(decide (0 ≤ slot) && decide (slot ≤ (↑p.slots.length : Int) - 1)))] [LB.mk [cI p.lsn, cS Apslots p.slots.length cpslots] 115, LB.mk [cI 0, cS none 0 0] 115]) ?_
  refine spl 21 (!(decide (0 ≤ slot) && decide (slot ≤ (↑p.slots.length : Int) - 1))) ?_ ?_
  · intro hb2
    try simp only [sbb] at hb2
    (exfalso; omega)
  intro hb2
  try simp only [sbb] at hb2
  refine gm [1, 2, 3, 6, 21, 22] 2 (St.mk (Rg.sq (bitL 3 1) 14) [kCd (bitL 3 5), KI.code [true, true]] [(1, vI slot), (2, vI lsn), (3, vR 0 0), (6, vR 1 0), (21, vL false), (22, vI lsn)] [LB.mk [cI p.lsn, cS Apslots p.slots.length cpslots] 115, LB.mk [cI 0, cS none 0 0] 115]) ?_
  refine call_pure true (by kernel_rfl : atC _ _ _ true = some (85, [vI lsn, vI 1, vI 1000000], some 23, Rg.sq (bitL 3 1) 15)) (by kernel_rfl) (.one (.bo (decide (1 ≤ lsn) && decide (lsn ≤ 1000000)))) (fun L w1 hs => (Go.Proofs.Ytgleoebogikooaa.Dk.l5in_ok (lsn) (1) (1000000) w1)) ?_
  refine gm [1, 2, 3, 6, 25] 2 (St.mk Rg.no [kCd (bitL 3 5), KI.code [true, true]] [(1, vI slot), (2, vI lsn), (3, vR 0 0), (6, vR 1 0), (25, vB !(decide (1 ≤ lsn) && decide (lsn ≤ 1000000)))] [LB.mk [cI p.lsn, cS Apslots p.slots.length cpslots] 115, LB.mk [cI 0, cS none 0 0] 115]) ?_
  refine spl 25 (!(decide (1 ≤ lsn) && decide (lsn ≤ 1000000))) ?_ ?_
  · intro hb3
    try simp only [sbb] at hb3
    (exfalso; omega)
  intro hb3
  try simp only [sbb] at hb3
  refine gm [1, 2, 6, 27] 2 (St.mk (Rg.sq (bitL 3 3) 1) [kCd (bitL 3 7)] [(1, vI slot), (2, vI lsn), (6, vR 1 0), (27, SV.agg [cI p.lsn, cS Apslots p.slots.length cpslots])] [LB.mk [cI p.lsn, cS Apslots p.slots.length cpslots] 115, LB.mk [cI 0, cS none 0 0] 115]) ?_
  refine call_at true (by kernel_rfl : atC _ _ _ true = some (130, [SV.agg [cI p.lsn, cS Apslots p.slots.length cpslots]], some 28, Rg.sq (bitL 3 3) 2)) (by kernel_rfl) (fun L w1 hs => (Go.Proofs.Ytgleoebogikooaa.Dk.l7copy_ok (p) ([Value.int IntKind.i64 p.lsn, Value.slice Apslots p.slots.length cpslots]) w1 (Go.Proofs.Ytgleoebogikooaa.Dk.kPg_mk (rdRow_ext (hs.old 0 rfl) hrpslots)) (by assumption) (by assumption)).mono ?_)
  rintro e_ w2_ ⟨B_1, d_1, rfl, hf_⟩
  refine ⟨.agg [.v (Value.int IntKind.i64 p.lsn), .v (Value.slice B_1 p.slots.length d_1)], _, _, rfl, fun _ => hf_.1.block, hs.fresh hf_, ?_⟩
  clear hs hf_
  refine gm [2, 6, 8, 30, 31] 3 (St.mk (Rg.sq (bitL 4 7) 3) [kCd (bitL 4 15)] [(2, vI lsn), (6, vR 1 0), (8, vR 2 0), (30, vS B_1 p.slots.length d_1), (31, vI slot)] [LB.mk [cI p.lsn, cS Apslots p.slots.length cpslots] 115, LB.mk [cI 0, cS none 0 0] 115, LB.mk [cI p.lsn, cS B_1 p.slots.length d_1] 115]) ?_
  refine index_at 3 (by kernel_rfl : atP _ _ _ 3 false = some (Op.indexAddr 113 (tmpO 30) (tmpO 31), 0, some 32, Rg.sq (bitL 4 7) 4)) (ni := slot.toNat) (sz := 1) (by kernel_rfl) rfl rfl (by omega) (by omega) (fun L w1 hs => rd_some (i := slot.toNat) (hs.rd 0 rfl) (by omega)) ?_
  intro a_1 ha_1
  cases ha_1
  refine gm [2, 6, 8, 32] 3 (St.mk (Rg.sq (bitL 4 7) 4) [kCd (bitL 4 15)] [(2, vI lsn), (6, vR 1 0), (8, vR 2 0), (32, vP (a_1.add (slot.toNat * 1)))] [LB.mk [cI p.lsn, cS Apslots p.slots.length cpslots] 115, LB.mk [cI 0, cS none 0 0] 115, LB.mk [cI p.lsn, cS (some a_1) p.slots.length d_1] 115]) ?_
  refine h_own_g (by omega) (fun g hA => ?_)
  cases hA
  refine h_own_cap (fun hcap => ?_)
  refine store_el (A := []) (d := (kRow 5 kU8)) (i := slot.toNat) (y := []) (by kernel_rfl : atB _ _ _ false = some (Op.store 40 (tmpO 32) (Operand.const (Value.slice none 0 0)), 0, none, Rg.sq (bitL 4 7) 5)) (by kernel_rfl) rfl rfl rfl rfl rfl (by omega) (fun h S hA => ⟨_, rfl, owRow_nil⟩) ?_
  refine gm [6, 8] 3 (St.mk Rg.no [kLp (bitL 8 223), KI.block 0, kCd (bitL 6 63)] [(6, vR 1 0), (8, vR 2 0)] [LB.mk [cI p.lsn, cS Apslots p.slots.length cpslots] 115, LB.mk [cI 0, cS none 0 0] 115, LB.mk [cI lsn, cS (some (Addr.mk g 0 none)) p.slots.length d_1] 115]) ?_
  obtain ⟨ys, hys⟩ : ∃ ys, ys = p.slots.set slot.toNat [] := ⟨_, rfl⟩
  have hyl : ys.length = p.slots.length := by rw [hys, List.length_set]
  rw [← hys, ← hyl]
  rw [← hys] at hyes
  refine gm [6, 8] 3 (St.mk Rg.no [kLp (bitL 8 223), KI.block 0, kCd (bitL 6 63)] [(6, vR 1 0), (8, vR 2 0)] [LB.mk [cI p.lsn, cS Apslots ys.length cpslots] 115, LB.mk [cI 0, cS none 0 0] 115, LB.mk [cI lsn, cS (some (Addr.mk g 0 none)) ys.length d_1] 115]) ?_
  refine loop_at (ι := Nat) (fun _ => []) (fun m => [(2, ⟨[.v (.int .i64 lsn), .v (.slice (some ⟨g, 0, none⟩) m d_1)], 115⟩)]) (fun m => [rowA 40 (kRow 5 kU8) (ys.take m) (.slice (some ⟨g, 0, none⟩) m d_1), oldA w]) (fun m => m ≤ ys.length ∧ trimN ys ys.length = trimN ys m) (fun m => m) ys.length rfl rfl (by rw [List.take_length]) ⟨Nat.le_refl _, rfl⟩ ?_
  rintro m ⟨hm, htr⟩ ih
  rcases Nat.eq_zero_or_pos m with rfl | hm0
  · have hte : trimE ys = [] := by unfold trimE; rw [htr]; rfl
    refine gm [6, 8, 39] 3 (St.mk (Rg.sq (bitL 10 223) 5) [kCd (bitL 10 735), kCd (bitL 9 479), kLp (bitL 8 223), KI.block 0, kCd (bitL 6 63)] [(6, vR 1 0), (8, vR 2 0), (39, vB false)] [LB.mk [cI p.lsn, cS Apslots ys.length cpslots] 115, LB.mk [cI 0, cS none 0 0] 115, LB.mk [cI lsn, cS (some (Addr.mk g 0 none)) 0 d_1] 115]) ?_
    refine ltk 39 false ?_
    refine gm [6, 7] 2 (St.mk Rg.no [kCd (bitL 7 127)] [(6, vR 1 0), (7, vL true)] [LB.mk [cI p.lsn, cS Apslots ys.length cpslots] 115, LB.mk [cI lsn, cS (some (Addr.mk g 0 none)) 0 d_1] 115]) ?_
    refine rtk [SV.agg [cI lsn, cS (some (Addr.mk g 0 none)) 0 d_1], vL true] ?_
    intro L w1 hs
    exact ⟨_, _, by rw [hyes]; show _ = Ending.returned (.tuple #[.agg #[.int .i64 lsn, .slice _ (trimE ys).length _], .bool true]); rw [hte]; rfl, by rw [hyes]; show Fresh _ _ [rowA 40 (kRow 5 kU8) (trimE ys) (.slice _ (trimE ys).length _)]; rw [hte]; exact hs.out (As := [_])⟩
  have hm1 : m - 1 < ys.length := by omega
  have htk : (ys.take m).length = m := by rw [List.length_take]; omega
  have hm2 : m - 1 < (ys.take m).length := by omega
  have nf_2 : IntKind.i64.wrap ((m : Int) - 1) = ((m - 1 : Nat) : Int) := by rw [IntKind.wrap_i64]; omega
  refine gm [6, 8, 39] 3 (St.mk (Rg.sq (bitL 10 223) 5) [kCd (bitL 10 735), kCd (bitL 9 479), kLp (bitL 8 223), KI.block 0, kCd (bitL 6 63)] [(6, vR 1 0), (8, vR 2 0), (39, vB (decide ((↑m : Int) > 0)))] [LB.mk [cI p.lsn, cS Apslots ys.length cpslots] 115, LB.mk [cI 0, cS none 0 0] 115, LB.mk [cI lsn, cS (some (Addr.mk g 0 none)) m d_1] 115]) ?_
  refine spl 39 (decide ((↑m : Int) > 0)) ?_ ?_
  rotate_left
  · intro hb4
    replace hb4 := of_decide_eq_false hb4
    (exfalso; omega)
  intro hb4
  replace hb4 := of_decide_eq_true hb4
  refine gm [6, 8, 39, 41, 45] 3 (St.mk (Rg.sq (bitL 10 223) 11) [kCd (bitL 10 735), kCd (bitL 9 479), kLp (bitL 8 223), KI.block 0, kCd (bitL 6 63)] [(6, vR 1 0), (8, vR 2 0), (39, vL true), (41, vS (some (Addr.mk g 0 none)) m d_1), (45, vI (IntKind.i64.wrap ((↑m : Int) - 1)))] [LB.mk [cI p.lsn, cS Apslots ys.length cpslots] 115, LB.mk [cI 0, cS none 0 0] 115, LB.mk [cI lsn, cS (some (Addr.mk g 0 none)) m d_1] 115]) ?_
  try simp only [fl_ne_self, fl_eq_self, fl_eq0, fl_ne0, fl_gt0, fl_lt0, nf_1, nf_2]
  refine index_at 11 (by kernel_rfl : atP _ _ _ 11 false = some (Op.indexAddr 113 (tmpO 41) (tmpO 45), 0, some 46, Rg.sq (bitL 10 223) 12)) (ni := m - 1) (sz := 1) (by kernel_rfl) rfl rfl rfl (by omega) (fun L w1 hs => rd_some (i := m - 1) (hs.rd 0 rfl) (by omega)) ?_
  intro a_1 ha_1
  cases ha_1
  refine gm [6, 8, 39, 46] 3 (St.mk (Rg.sq (bitL 10 223) 12) [kCd (bitL 10 735), kCd (bitL 9 479), kLp (bitL 8 223), KI.block 0, kCd (bitL 6 63)] [(6, vR 1 0), (8, vR 2 0), (39, vL true), (46, vP ((Addr.mk g 0 none).add ((m - 1) * 1)))] [LB.mk [cI p.lsn, cS Apslots ys.length cpslots] 115, LB.mk [cI 0, cS none 0 0] 115, LB.mk [cI lsn, cS (some (Addr.mk g 0 none)) m d_1] 115]) ?_
  refine load_one 12 (by kernel_rfl : atP _ _ _ 12 true = some (Op.load 40 (tmpO 46), 40, some 47, Rg.sq (bitL 10 223) 13)) (n := 1) (by kernel_rfl) rfl ?_
  intro L w1 hs
  obtain ⟨Ai, ci, hcell, hrow⟩ := rd_row (i := m - 1) (hs.rd 0 rfl) hm2
  clear hrow
  refine ⟨.v (.slice Ai ((ys.take m)[m - 1]'hm2).length ci), hcell, ?_⟩
  clear hs hcell
  rw [List.getElem_take]
  by_cases hem : ys[m - 1].length = 0
  · have nf_3 : ((ys[m - 1].length : Int) == 0) = true := by rw [hem]; rfl
    refine gm [6, 8, 50] 3 (St.mk Rg.no [kCd (bitL 10 735), kCd (bitL 9 479), kLp (bitL 8 223), KI.block 0, kCd (bitL 6 63)] [(6, vR 1 0), (8, vR 2 0), (50, vB ((↑ys[m - 1].length : Int) == 0))] [LB.mk [cI p.lsn, cS Apslots ys.length cpslots] 115, LB.mk [cI 0, cS none 0 0] 115, LB.mk [cI lsn, cS (some (Addr.mk g 0 none)) m d_1] 115]) ?_
    try simp only [fl_ne_self, fl_eq_self, fl_eq0, fl_ne0, fl_gt0, fl_lt0, nf_1, nf_2, nf_3]
    refine gm [6, 8, 50] 3 (St.mk Rg.no [kCd (bitL 10 735), kCd (bitL 9 479), kLp (bitL 8 223), KI.block 0, kCd (bitL 6 63)] [(6, vR 1 0), (8, vR 2 0), (50, vB true)] [LB.mk [cI p.lsn, cS Apslots ys.length cpslots] 115, LB.mk [cI 0, cS none 0 0] 115, LB.mk [cI lsn, cS (some (Addr.mk g 0 none)) m d_1] 115]) ?_
    refine ltk 50 true ?_
    refine gm [6, 8, 52, 56] 3 (St.mk (Rg.sq (bitL 10 991) 6) [KI.block 1, kLp (bitL 8 223), KI.block 0, kCd (bitL 6 63)] [(6, vR 1 0), (8, vR 2 0), (52, vS (some (Addr.mk g 0 none)) m d_1), (56, vI (IntKind.i64.wrap ((↑m : Int) - 1)))] [LB.mk [cI p.lsn, cS Apslots ys.length cpslots] 115, LB.mk [cI 0, cS none 0 0] 115, LB.mk [cI lsn, cS (some (Addr.mk g 0 none)) m d_1] 115]) ?_
    try simp only [fl_ne_self, fl_eq_self, fl_eq0, fl_ne0, fl_gt0, fl_lt0, nf_1, nf_2, nf_3]
    refine slice_at 6 (l := 0) (h := m - 1) (m := d_1) (sz := 1) (by kernel_rfl : atP _ _ _ 6 false = some (Op.slice 113 (tmpO 52) none (some (tmpO 56)) none, 113, some 57, Rg.sq (bitL 10 991) 7)) (by kernel_rfl) rfl rfl ⟨_, rfl⟩ rfl (by decide) (Nat.zero_le _) (by omega) (Nat.le_refl _) ?_
    generalize hA2 : (if d_1 = 0 then (some ⟨g, 0, none⟩ : Option Addr) else (some ⟨g, 0, none⟩ : Option Addr).map (·.add (0 * 1))) = A2
    obtain rfl : A2 = some ⟨g, 0, none⟩ := by rw [← hA2, if_neg (by omega)]; rfl
    clear hA2
    rw [Nat.sub_zero, Nat.sub_zero]
    refine gm [6, 8] 3 (St.mk Rg.no [kLp (bitL 8 223), KI.block 0, kCd (bitL 6 63)] [(6, vR 1 0), (8, vR 2 0)] [LB.mk [cI p.lsn, cS Apslots ys.length cpslots] 115, LB.mk [cI 0, cS none 0 0] 115, LB.mk [cI lsn, cS (some (Addr.mk g 0 none)) (m - 1) d_1] 115]) ?_
    refine h_turn (A := [_]) (B := [rowA 40 (kRow 5 kU8) (ys.take (m - 1)) (.slice (some ⟨g, 0, none⟩) (m - 1) d_1)]) (fun h S ho => ⟨S, fun _ => False, fun _ h => h, fun _ h => h.elim, fun _ _ h => h, rowA_holds.2 (by have h9 := owRow_take (rowA_holds.1 (sepL_one ho)) (show m - 1 ≤ m by omega); rw [List.take_take, Nat.min_eq_left (by omega)] at h9; exact h9), trivial⟩) ?_
    exact ih (m - 1) ⟨by omega, htr.trans (trimN_go hm0 hm1 hem)⟩ (by omega)
  have nf_3 : ((ys[m - 1].length : Int) == 0) = false := beq_eq_false_iff_ne.2 (by omega)
  have hst := htr.trans (trimN_stop hm0 hm1 hem)
  have hte : trimE ys = ys.take m := by unfold trimE; rw [hst]
  refine gm [6, 8, 50] 3 (St.mk Rg.no [kCd (bitL 10 735), kCd (bitL 9 479), kLp (bitL 8 223), KI.block 0, kCd (bitL 6 63)] [(6, vR 1 0), (8, vR 2 0), (50, vB ((↑ys[m - 1].length : Int) == 0))] [LB.mk [cI p.lsn, cS Apslots ys.length cpslots] 115, LB.mk [cI 0, cS none 0 0] 115, LB.mk [cI lsn, cS (some (Addr.mk g 0 none)) m d_1] 115]) ?_
  try simp only [fl_ne_self, fl_eq_self, fl_eq0, fl_ne0, fl_gt0, fl_lt0, nf_1, nf_2, nf_3]
  refine gm [6, 8, 50] 3 (St.mk Rg.no [kCd (bitL 10 735), kCd (bitL 9 479), kLp (bitL 8 223), KI.block 0, kCd (bitL 6 63)] [(6, vR 1 0), (8, vR 2 0), (50, vB false)] [LB.mk [cI p.lsn, cS Apslots ys.length cpslots] 115, LB.mk [cI 0, cS none 0 0] 115, LB.mk [cI lsn, cS (some (Addr.mk g 0 none)) m d_1] 115]) ?_
  refine ltk 50 false ?_
  refine gm [6, 7] 2 (St.mk Rg.no [kCd (bitL 7 127)] [(6, vR 1 0), (7, vL true)] [LB.mk [cI p.lsn, cS Apslots ys.length cpslots] 115, LB.mk [cI lsn, cS (some (Addr.mk g 0 none)) m d_1] 115]) ?_
  refine rtk [SV.agg [cI lsn, cS (some (Addr.mk g 0 none)) m d_1], vL true] ?_
  intro L w1 hs
  exact ⟨some ⟨g, 0, none⟩, d_1, by rw [hyes]; show _ = Ending.returned (.tuple #[.agg #[.int .i64 lsn, .slice _ (trimE ys).length _], .bool true]); rw [hte, htk]; rfl, by rw [hyes]; show Fresh _ _ [rowA 40 (kRow 5 kU8) (trimE ys) (.slice _ (trimE ys).length _)]; rw [hte, htk]; exact hs.out (As := [_])⟩

end Go.Proofs.Ytgleoebogikooaa.Dk
