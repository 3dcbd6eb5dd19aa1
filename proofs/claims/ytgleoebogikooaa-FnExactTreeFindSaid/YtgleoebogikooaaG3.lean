/- Walks of functions of the program: what each call returns and what it leaves in memory. Conditions: those that each theorem names. -/
import Derived.Test.YtgleoebogikooaaG2
namespace Go.Proofs.Ytgleoebogikooaa.Dk
set_option linter.unusedVariables false
set_option linter.unusedSimpArgs false
open Go.Proofs.Ytgleoebogikooaa.Sx Go.Proofs Go.RowKit
set_option maxRecDepth 100000
set_option maxHeartbeats 1000000
def treeR (t : Tr) : Option CS := chk t.nodes (t.nodes.length + 1) ([], 0) t.root 1 none none
def treeOk (t : Tr) : Bool := (decide (1 ≤ (t.nodes.length : Int)) && decide ((t.nodes.length : Int) ≤ 300)) && (match treeR t with
  | some r => decide (r.1.length = t.nodes.length)
  | none => false)
def byTr (t : Tr) : Prop := ∀ n ∈ t.nodes, ∀ e ∈ n.entries, byOk e.key.t
theorem iTreeOk_ok (t : Tr) (cst : List Value) (w : World) (ht : kTr.rd w.heap t cst) (hz : zTr t ≤ 1048576) (hby : byTr t) :
    Calls Try.prog 15 #[.agg cst.toArray] w fun e w' => e = .returned (.bool (treeOk t)) ∧ Below w.heap.size w w' := by
  obtain ⟨Atnodes, ctnodes, rfl, hrtnodes⟩ := kTr_inv ht
  refine enter (args := [.agg [.v (.slice Atnodes t.nodes.length ctnodes), .v (.int .i64 t.root)]]) Try.func15 (c := bodyOf Try.f15) rfl rfl (start_LOK _) (start_old w) ?_
  have hzz : zTr t = zRow zNd t.nodes := rfl
  have hz1 : zRow zNd t.nodes = t.nodes.length + (t.nodes.map zNd).sum := rfl
  have hsz2 : ∀ n ∈ t.nodes, n.entries.length ≤ 1048576 ∧ n.kids.length ≤ 1048576 := fun n hn => by
    have h1 := z_le zNd t.nodes hn
    have h2 : zNd n = (n.entries.length + (n.entries.map zEn).sum) + n.kids.length := rfl
    omega
  refine go mixed 2000 [1, 6] 1 (St.mk (Rg.sq (bitL 3 1) 3) [kCd (bitL 3 5), KI.code [true, true]] [(1, vR 0 0), (6, vI (↑t.nodes.length : Int))] [LB.mk [cS Atnodes t.nodes.length ctnodes, cI t.root] 29]) (by kernel_rfl) (by kernel_rfl) (by kernel_rfl) ?_
  refine call_pure true (by kernel_rfl : atC _ _ _ true = some (55, [vI (↑t.nodes.length : Int), vI 1, vI 300], some 7, Rg.sq (bitL 3 1) 4)) (by kernel_rfl) (.one (.bo (decide (1 ≤ (↑t.nodes.length : Int)) && decide ((↑t.nodes.length : Int) ≤ 300)))) (fun L w1 hs => (Go.Proofs.Ytgleoebogikooaa.Dk.within_ok ((↑t.nodes.length : Int)) (1) (300) w1)) ?_
  refine go mixed 2000 [1, 8] 1 (St.mk Rg.no [kCd (bitL 3 5), KI.code [true, true]] [(1, vR 0 0), (8, vB !(decide (1 ≤ (↑t.nodes.length : Int)) && decide ((↑t.nodes.length : Int) ≤ 300)))] [LB.mk [cS Atnodes t.nodes.length ctnodes, cI t.root] 29]) (by kernel_rfl) (by kernel_rfl) (by kernel_rfl) ?_
  refine split_at 8 (b := !(decide (1 ≤ (↑t.nodes.length : Int)) && decide ((↑t.nodes.length : Int) ≤ 300))) (by kernel_rfl) (by kernel_rfl) ?_ ?_
  · intro hb1
    try simp only [decide_eq_true_eq, decide_eq_false_iff_not, Bool.not_eq_true', Bool.not_eq_false', Bool.and_eq_true, Bool.or_eq_true, Bool.and_eq_false_imp, bne_iff_ne, beq_iff_eq, bne_eq_false_iff_eq, beq_eq_false_iff_ne, ne_eq, Decidable.not_not, Int.not_le, Int.not_lt, Nat.not_le, Nat.not_lt] at hb1
    refine go mixed 2000 [2] 0 (St.mk Rg.no [kCd (bitL 5 21), KI.code [true, true]] [(2, vL false)] []) (by kernel_rfl) (by kernel_rfl) (by kernel_rfl) ?_
    refine ret_ok (vs := [vL false]) (by kernel_rfl) ?_
    intro L w1 hs
    exact ⟨retB (by unfold treeOk; rw [show (decide (1 ≤ (t.nodes.length : Int)) && decide ((t.nodes.length : Int) ≤ 300)) = false by simp only [Bool.and_eq_false_iff, decide_eq_false_iff_not]; omega]; rfl), hs.out0⟩
  intro hb1
  try simp only [decide_eq_true_eq, decide_eq_false_iff_not, Bool.not_eq_true', Bool.not_eq_false', Bool.and_eq_true, Bool.or_eq_true, Bool.and_eq_false_imp, bne_iff_ne, beq_iff_eq, bne_eq_false_iff_eq, beq_eq_false_iff_ne, ne_eq, Decidable.not_not, Int.not_le, Int.not_lt, Nat.not_le, Nat.not_lt] at hb1
  refine go mixed 2000 [1, 9] 1 (St.mk (Rg.sq (bitL 3 3) 1) [kCd (bitL 3 7)] [(1, vR 0 0), (9, SV.agg [cS Atnodes t.nodes.length ctnodes, cI t.root])] [LB.mk [cS Atnodes t.nodes.length ctnodes, cI t.root] 29]) (by kernel_rfl) (by kernel_rfl) (by kernel_rfl) ?_
  refine makemap_at (by kernel_rfl : atB _ _ _ true = some (Op.makeMap 87 none, 87, some 10, Rg.sq (bitL 3 3) 2)) ?_
  intro m
  refine go mixed 5 [1, 3] 2 (St.mk Rg.no [kCd (bitL 4 7), kCd (bitL 4 15)] [(1, vR 0 0), (3, vR 1 0)] [LB.mk [cS Atnodes t.nodes.length ctnodes, cI t.root] 29, LB.mk [cS Atnodes t.nodes.length ctnodes, cI t.root, SC.v (Value.map (some m)), cI 0] 89]) (by kernel_rfl) (by kernel_rfl) (by kernel_rfl) ?_
  refine draw3_at mixed 16 (by kernel_rfl) ?_
  refine go mixed 2000 [1, 3, 13, 15] 2 (St.mk (Rg.dr (bitL 4 7) (bitL 16 7) 13 3) [kCd (bitL 4 15)] [(1, vR 0 0), (3, vR 1 0), (13, vR 1 0), (15, vI t.root)] [LB.mk [cS Atnodes t.nodes.length ctnodes, cI t.root] 29, LB.mk [cS Atnodes t.nodes.length ctnodes, cI t.root, SC.v (Value.map (some m)), cI 0] 89]) (by kernel_rfl) (by kernel_rfl) (by kernel_rfl) ?_
  have hlen : (decide (1 ≤ (t.nodes.length : Int)) && decide ((t.nodes.length : Int) ≤ 300)) = true := by simp only [Bool.and_eq_true, decide_eq_true_eq]; omega
  refine call_lb (hh := 1) (A := [mapA m []]) (vals := [.slice Atnodes t.nodes.length ctnodes, .int .i64 t.root, .map (some m), .int .i64 0]) (by kernel_rfl : atC _ _ _ false = some (56, [vR 1 0, vI t.root, vI 1, SV.one (SC.v (Value.pointer none)), SV.one (SC.v (Value.pointer none))], some 16, Rg.dr (bitL 4 7) (bitL 16 15) 12 3)) (by kernel_rfl) rfl rfl (fun L w1 S1 hs hA hS1 hT2 _ => (check_ok t.nodes Atnodes ctnodes t.root m w hrtnodes hby (by omega) hsz2 (t.nodes.length + 1) ([], 0) t.root 1 none none none none _ S1 w1 hA hS1 hs.1.1.size (old_apart hT2 0 rfl).1 (old_apart hT2 0 rfl).2 trivial trivial ⟨List.nodup_nil, fun x hx => by simp at hx⟩ (by simp) (by omega)).mono ?_)
  rintro e w2 ⟨b2, r2, rfl, hm, hsd⟩
  refine ⟨.one (.bo b2), [.v (.slice Atnodes t.nodes.length ctnodes), .v (.int .i64 t.root), .v (.map (some m)), .v (.int .i64 r2.2)], _, _, rfl, rfl, hm, ?_⟩
  clear hm hs hA hS1 hT2
  cases hc : chk t.nodes (t.nodes.length + 1) ([], 0) t.root 1 none none with
  | none =>
    rw [hc] at hsd
    obtain rfl : b2 = false := hsd
    refine go mixed 2000 [1, 3, 17] 2 (St.mk (Rg.dr (bitL 4 7) (bitL 16 31) 11 3) [kCd (bitL 4 15)] [(1, vR 0 0), (3, vR 1 0), (17, vB false)] [LB.mk [cS Atnodes t.nodes.length ctnodes, cI t.root] 29, LB.mk [cS Atnodes t.nodes.length ctnodes, cI t.root, SC.v (Value.map (some m)), cI r2.snd] 89]) (by kernel_rfl) (by kernel_rfl) (by kernel_rfl) ?_
    refine lit_at 17 (b := false) (by kernel_rfl) ?_
    refine go mixed 2000 [2] 0 (St.mk Rg.no [kCd (bitL 4 15)] [(2, vL false)] []) (by kernel_rfl) (by kernel_rfl) (by kernel_rfl) ?_
    refine ret_ok (vs := [vL false]) (by kernel_rfl) ?_
    intro L w1 hs
    exact ⟨retB (by unfold treeOk treeR; rw [hlen, hc]; rfl), (hs.erases [0]).out0⟩
  | some x =>
    rw [hc] at hsd
    obtain ⟨rfl, rfl⟩ : b2 = true ∧ r2 = x := hsd
    refine go mixed 2000 [1, 3, 17] 2 (St.mk (Rg.dr (bitL 4 7) (bitL 16 31) 11 3) [kCd (bitL 4 15)] [(1, vR 0 0), (3, vR 1 0), (17, vB true)] [LB.mk [cS Atnodes t.nodes.length ctnodes, cI t.root] 29, LB.mk [cS Atnodes t.nodes.length ctnodes, cI t.root, SC.v (Value.map (some m)), cI r2.snd] 89]) (by kernel_rfl) (by kernel_rfl) (by kernel_rfl) ?_
    refine lit_at 17 (b := true) (by kernel_rfl) ?_
    refine go mixed 2000 [17, 20, 23] 2 (St.mk (Rg.dr (bitL 4 7) (bitL 16 1279) 7 3) [kCd (bitL 4 15)] [(17, vL true), (20, vR 1 2), (23, vR 0 0)] [LB.mk [cS Atnodes t.nodes.length ctnodes, cI t.root] 29, LB.mk [cS Atnodes t.nodes.length ctnodes, cI t.root, SC.v (Value.map (some m)), cI r2.snd] 89]) (by kernel_rfl) (by kernel_rfl) (by kernel_rfl) ?_
    refine two_at 8 11 (by kernel_rfl) ?_ ?_
    · simp only [fxOf]
      refine load_lbB true (by kernel_rfl : atB _ _ _ true = some (Op.load 87 (tmpO 20), 87, some 21, Rg.dr (bitL 4 7) (bitL 16 1535) 6 3)) rfl ?_
      refine go mixed 2000 [17, 21, 23] 1 (St.mk (Rg.dr (bitL 4 7) (bitL 16 1535) 6 3) [kCd (bitL 4 15)] [(17, vL true), (21, SV.one (SC.v (Value.map (some m)))), (23, vR 0 0)] [LB.mk [cS Atnodes t.nodes.length ctnodes, cI t.root] 29]) (by kernel_rfl) (by kernel_rfl) (by kernel_rfl) ?_
      refine two_at 9 11 (by kernel_rfl) ?_ ?_
      · simp only [fxOf]
        refine lenmap_at 0 (by kernel_rfl : atB _ _ _ true = some (Op.call (Call.mk (Callee.builtin Builtin.len) #[tmpO 21] #[87]), 3, some 22, Rg.dr (bitL 4 7) (bitL 16 2047) 5 3)) (by kernel_rfl) rfl rfl ?_
        refine go mixed 2000 [2] 0 (St.mk Rg.no [kCd (bitL 4 15)] [(2, vB ((↑r2.fst.length : Int) == (↑t.nodes.length : Int)))] []) (by kernel_rfl) (by kernel_rfl) (by kernel_rfl) ?_
        refine ret_ok (vs := [vB ((↑r2.fst.length : Int) == (↑t.nodes.length : Int))]) (by kernel_rfl) ?_
        intro L w1 hs
        exact ⟨retB (by unfold treeOk treeR; rw [hlen, hc, Bool.eq_iff_iff]; simp only [Bool.true_and, decide_eq_true_eq, beq_iff_eq]; omega), (hs.erases [0]).out0⟩
      · simp only [fxOf]
        refine load_lbB true (by kernel_rfl : atB _ _ _ true = some (Op.load 27 (tmpO 23), 27, some 24, Rg.dr (bitL 4 7) (bitL 16 3583) 5 3)) rfl ?_
        refine go mixed 2000 [17, 21, 25] 0 (St.mk (Rg.dr (bitL 4 7) (bitL 16 7679) 4 3) [kCd (bitL 4 15)] [(17, vL true), (21, SV.one (SC.v (Value.map (some m)))), (25, vI (↑t.nodes.length : Int))] []) (by kernel_rfl) (by kernel_rfl) (by kernel_rfl) ?_
        refine lenmap_at 0 (by kernel_rfl : atB _ _ _ true = some (Op.call (Call.mk (Callee.builtin Builtin.len) #[tmpO 21] #[87]), 3, some 22, Rg.dr (bitL 4 7) (bitL 16 8191) 3 3)) (by kernel_rfl) rfl rfl ?_
        refine go mixed 2000 [2] 0 (St.mk Rg.no [kCd (bitL 4 15)] [(2, vB ((↑r2.fst.length : Int) == (↑t.nodes.length : Int)))] []) (by kernel_rfl) (by kernel_rfl) (by kernel_rfl) ?_
        refine ret_ok (vs := [vB ((↑r2.fst.length : Int) == (↑t.nodes.length : Int))]) (by kernel_rfl) ?_
        intro L w1 hs
        exact ⟨retB (by unfold treeOk treeR; rw [hlen, hc, Bool.eq_iff_iff]; simp only [Bool.true_and, decide_eq_true_eq, beq_iff_eq]; omega), (hs.erases [0]).out0⟩
    · simp only [fxOf]
      refine load_lbB true (by kernel_rfl : atB _ _ _ true = some (Op.load 27 (tmpO 23), 27, some 24, Rg.dr (bitL 4 7) (bitL 16 3327) 6 3)) rfl ?_
      refine go mixed 2000 [17, 21, 25] 0 (St.mk (Rg.dr (bitL 4 7) (bitL 16 7679) 4 3) [kCd (bitL 4 15)] [(17, vL true), (21, SV.one (SC.v (Value.map (some m)))), (25, vI (↑t.nodes.length : Int))] []) (by kernel_rfl) (by kernel_rfl) (by kernel_rfl) ?_
      refine lenmap_at 0 (by kernel_rfl : atB _ _ _ true = some (Op.call (Call.mk (Callee.builtin Builtin.len) #[tmpO 21] #[87]), 3, some 22, Rg.dr (bitL 4 7) (bitL 16 8191) 3 3)) (by kernel_rfl) rfl rfl ?_
      refine go mixed 2000 [2] 0 (St.mk Rg.no [kCd (bitL 4 15)] [(2, vB ((↑r2.fst.length : Int) == (↑t.nodes.length : Int)))] []) (by kernel_rfl) (by kernel_rfl) (by kernel_rfl) ?_
      refine ret_ok (vs := [vB ((↑r2.fst.length : Int) == (↑t.nodes.length : Int))]) (by kernel_rfl) ?_
      intro L w1 hs
      exact ⟨retB (by unfold treeOk treeR; rw [hlen, hc, Bool.eq_iff_iff]; simp only [Bool.true_and, decide_eq_true_eq, beq_iff_eq]; omega), (hs.erases [0]).out0⟩

end Go.Proofs.Ytgleoebogikooaa.Dk
