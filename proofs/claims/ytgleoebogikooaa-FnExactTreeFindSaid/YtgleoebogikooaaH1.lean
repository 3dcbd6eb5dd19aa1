/- Walks of functions of the program: what each call returns and what it leaves in memory. Conditions: those that each theorem names. -/
import Derived.Test.YtgleoebogikooaaG7
namespace Go.Proofs.Ytgleoebogikooaa.Dk
set_option linter.unusedVariables false
set_option linter.unusedSimpArgs false
open Go.Proofs.Ytgleoebogikooaa.Sx Go.Proofs Go.RowKit
set_option maxRecDepth 100000
set_option maxHeartbeats 1000000
theorem outL {C : Cx} {As : List HA} {lb : List LB} {L : List Nat} {w1 : World} {ty : Nat} {cells : List SC} {vals : List Value} (hs : SOK C (As ++ [oldA C.w0]) lb L w1) (i : Nat) (hb : lb[i]? = some ⟨cells, ty⟩) (hc : cellsV cells = some vals) : Fresh C.w0 w1 (blkA (L.getD i 0) vals ty :: As) := by
  have ho := hs.out
  have hin : L.getD i 0 ∈ L := by
    have hj : i < L.length := by rw [← hs.2.1.1]; exact (List.getElem?_eq_some_iff.1 hb).1
    rw [List.getD_eq_getElem?_getD, List.getElem?_eq_getElem hj]
    exact List.getElem_mem _
  have hge : C.w0.heap.size ≤ L.getD i 0 := sok_above hs As.length (by simp) _ hin
  have hlt := hs.inL _ hin
  have hblk := hs.2.1.2.2 i _ hb
  rw [cellsV_val hc] at hblk
  obtain ⟨⟨h1, hp⟩, hl, S, hS, hF⟩ := hs
  obtain ⟨S1, S2, h3, h4, hd, hA, S3, S4, h5, _, _, hold, _⟩ := sepL_append.1 hF
  refine ⟨ho.1, fun b => b = L.getD i 0 ∨ S1 b, fun b hb => ?_, fun b => b = L.getD i 0, S1, fun b hb => .inl hb, fun b hb => .inr hb, fun b hb h1 => (hS b (h3 b h1)).2 (hb ▸ hin), ⟨rfl, hblk⟩, hA⟩
  rcases hb with rfl | hb
  · exact ⟨hge, hlt⟩
  · refine ⟨?_, (hS b (h3 b hb)).1⟩
    rcases Nat.lt_or_ge b C.w0.heap.size with hlt | hge
    · exact absurd (h5 b (hold b hlt).1) (hd b hb)
    · exact hge
theorem seen_all {T : List Nd} {bs : List Bool} {s : List Int} (h : SeenIs T bs s) (hg : goodS T s) : (∀ (i : Nat) (h : i < bs.length), bs[i] = true) ↔ s.length = T.length := by
  have hn : (s.map Int.toNat).Nodup := by
    rw [List.Nodup, List.pairwise_map]
    refine List.Pairwise.imp_of_mem (fun {a b} ha hb hab => ?_) hg.1
    have := hg.2 a ha; have := hg.2 b hb
    omega
  have hl := goodS_len hg
  constructor
  · intro hh
    have h1 : List.range T.length ⊆ s.map Int.toNat := fun i hi => by
      have hi := List.mem_range.1 hi
      have h2 := (h.2 i (by rw [h.1]; exact hi)).1 (hh i (by rw [h.1]; exact hi))
      exact List.mem_map.2 ⟨_, h2, by simp⟩
    have h2 := List.Nodup.length_le_of_subset List.nodup_range h1
    simp only [List.length_range, List.length_map] at h2
    omega
  · intro he i hi
    refine (h.2 i hi).2 (Classical.byContradiction fun hc => ?_)
    have hb : i < T.length := by rw [← h.1]; exact hi
    have h1 : s.map Int.toNat ⊆ (List.range T.length).erase i := fun x hx => by
      obtain ⟨y, hy, rfl⟩ := List.mem_map.1 hx
      have h2 := hg.2 y hy
      refine (List.mem_erase_of_ne fun e => hc ?_).2 (List.mem_range.2 (by omega))
      rw [← e, Int.toNat_of_nonneg h2.1]
      exact hy
    have h2 := List.Nodup.length_le_of_subset hn h1
    rw [List.length_erase_of_mem (List.mem_range.2 hb), List.length_range, List.length_map] at h2
    omega
theorem look_no {t : Tr} (h : (decide (1 ≤ (t.nodes.length : Int)) && decide ((t.nodes.length : Int) ≤ 300)) = true) (hc : treeR t = none) : false = treeOk t := by
  unfold treeOk
  rw [h, hc]
  rfl
theorem look_some {t : Tr} {x : CS} {b : Bool} (h : (decide (1 ≤ (t.nodes.length : Int)) && decide ((t.nodes.length : Int) ≤ 300)) = true) (hc : treeR t = some x) (hb : b = decide (x.1.length = t.nodes.length)) : b = treeOk t := by
  unfold treeOk
  rw [h, hc, hb]
  rfl
theorem key_le {t : Tr} (hz : zTr t ≤ 1048576) : ∀ n ∈ t.nodes, ∀ e ∈ n.entries, e.key.t.length ≤ 1048576 := fun n hn e he => by
  have hz1 : zRow zNd t.nodes = t.nodes.length + (t.nodes.map zNd).sum := rfl
  have h1 := z_le zNd t.nodes hn
  have h2 : zNd n = (n.entries.length + (n.entries.map zEn).sum) + n.kids.length := rfl
  have h3 := z_le zEn n.entries he
  have h4 : zEn e = e.key.t.length := rfl
  have h5 : zRow zEn n.entries = n.entries.length + (n.entries.map zEn).sum := rfl
  have h6 : zTr t = zRow zNd t.nodes := rfl
  omega
def LookSaid (w0 : World) (t : Tr) (b : Bool) (k : Wk) : Prop := b = true → ∃ x, treeR t = some x ∧ k.deep = x.2 ∧ AllIs w0 (collect t.nodes (t.nodes.length + 1) t.root) k.css ∧ k.css.length ≤ 4 * t.nodes.length
theorem l11look_at (t : Tr) (cst : List Value) (w : World) (w0 : World) (ht : kTr.rd w0.heap t cst) (h0 : w0.heap.size ≤ w.heap.size) (hag : ∀ b, b < w0.heap.size → w.heap[b]? = w0.heap[b]?) (hz : zTr t ≤ 1048576) (hby : byTr t) :
    Calls Try.prog 53 #[.agg cst.toArray] w fun e w' => ∃ (g : Nat) (k : Wk) (b : Bool), e = .returned (.tuple #[.pointer (some ⟨g, 0, none⟩), .bool b]) ∧ Fresh w w' [blkA g k.vals 94, rowA 4 kBool k.bs (.slice k.A k.m k.n), rowA 101 (kCells 5) k.css (.slice k.B k.css.length k.c)] ∧ b = treeOk t ∧ LookSaid w0 t b k := by
  obtain ⟨Atnodes, ctnodes, rfl, hrtnodes⟩ := kTr_inv ht
  refine enter (args := [.agg [.v (.slice Atnodes t.nodes.length ctnodes), .v (.int .i64 t.root)]]) Try.func53 (c := bodyOf Try.f53) rfl rfl (start_LOK _) (start_old w) ?_
  have hzz : zTr t = zRow zNd t.nodes := rfl
  have hz1 : zRow zNd t.nodes = t.nodes.length + (t.nodes.map zNd).sum := rfl
  have hsz2 : ∀ n ∈ t.nodes, n.entries.length ≤ 1048576 ∧ n.kids.length ≤ 1048576 := fun n hn => by
    have h1 := z_le zNd t.nodes hn
    have h2 : zNd n = (n.entries.length + (n.entries.map zEn).sum) + n.kids.length := rfl
    omega
  have hkl := key_le hz
  refine h_nil 101 (kCells 5) ?_
  refine h_nil 4 kBool ?_
  refine go mixed 2000 [1, 4, 12] 2 (St.mk (Rg.sq (bitL 4 3) 5) [kCd (bitL 4 11), kCd (bitL 3 7)] [(1, vR 0 0), (4, vR 1 0), (12, vB (decide ((↑t.nodes.length : Int) < 1)))] [LB.mk [cS Atnodes t.nodes.length ctnodes, cI t.root] 29, LB.mk [cS none 0 0, cI 0, SC.bo false, cS none 0 0] 94]) (by kernel_rfl) (by kernel_rfl) (by kernel_rfl) ?_
  refine split_at 12 (b := decide ((↑t.nodes.length : Int) < 1)) (by kernel_rfl) (by kernel_rfl) ?_ ?_
  · intro hb1
    replace hb1 := of_decide_eq_true hb1
    refine go mixed 2000 [2, 3] 2 (St.mk Rg.no [kCd (bitL 6 43), kCd (bitL 3 7)] [(2, vR 1 0), (3, vL false)] [LB.mk [cS Atnodes t.nodes.length ctnodes, cI t.root] 29, LB.mk [cS none 0 0, cI 0, SC.bo false, cS none 0 0] 94]) (by kernel_rfl) (by kernel_rfl) (by kernel_rfl) ?_
    refine ret_ok (vs := [vR 1 0, vL false]) (by kernel_rfl) ?_
    intro L w1 hs
    exact ⟨_, ⟨none, 0, 0, 0, false, none, 0, [], []⟩, false, rfl, outL (As := [_, _]) hs 1 rfl rfl, by unfold treeOk; rw [show (decide (1 ≤ (t.nodes.length : Int)) && decide ((t.nodes.length : Int) ≤ 300)) = false by simp only [Bool.and_eq_false_iff, decide_eq_false_iff_not]; omega]; rfl, fun h => by cases h⟩
  intro hb1
  replace hb1 := of_decide_eq_false hb1
  refine go mixed 2000 [1, 4, 17] 2 (St.mk Rg.no [kCd (bitL 4 11), kCd (bitL 3 7)] [(1, vR 0 0), (4, vR 1 0), (17, vB (decide ((↑t.nodes.length : Int) > 300)))] [LB.mk [cS Atnodes t.nodes.length ctnodes, cI t.root] 29, LB.mk [cS none 0 0, cI 0, SC.bo false, cS none 0 0] 94]) (by kernel_rfl) (by kernel_rfl) (by kernel_rfl) ?_
  refine split_at 17 (b := decide ((↑t.nodes.length : Int) > 300)) (by kernel_rfl) (by kernel_rfl) ?_ ?_
  · intro hb2
    replace hb2 := of_decide_eq_true hb2
    refine go mixed 2000 [2, 3] 2 (St.mk Rg.no [kCd (bitL 6 43), kCd (bitL 3 7)] [(2, vR 1 0), (3, vL false)] [LB.mk [cS Atnodes t.nodes.length ctnodes, cI t.root] 29, LB.mk [cS none 0 0, cI 0, SC.bo false, cS none 0 0] 94]) (by kernel_rfl) (by kernel_rfl) (by kernel_rfl) ?_
    refine ret_ok (vs := [vR 1 0, vL false]) (by kernel_rfl) ?_
    intro L w1 hs
    exact ⟨_, ⟨none, 0, 0, 0, false, none, 0, [], []⟩, false, rfl, outL (As := [_, _]) hs 1 rfl rfl, by unfold treeOk; rw [show (decide (1 ≤ (t.nodes.length : Int)) && decide ((t.nodes.length : Int) ≤ 300)) = false by simp only [Bool.and_eq_false_iff, decide_eq_false_iff_not]; omega]; rfl, fun h => by cases h⟩
  intro hb2
  replace hb2 := of_decide_eq_false hb2
  refine go mixed 2000 [1, 4, 19, 22] 2 (St.mk (Rg.sq (bitL 4 7) 4) [kCd (bitL 4 15)] [(1, vR 0 0), (4, vR 1 0), (19, vR 1 0), (22, vI (↑t.nodes.length : Int))] [LB.mk [cS Atnodes t.nodes.length ctnodes, cI t.root] 29, LB.mk [cS none 0 0, cI 0, SC.bo false, cS none 0 0] 94]) (by kernel_rfl) (by kernel_rfl) (by kernel_rfl) ?_
  have hlen : (decide (1 ≤ (t.nodes.length : Int)) && decide ((t.nodes.length : Int) ≤ 300)) = true := by simp only [Bool.and_eq_true, decide_eq_true_eq]; omega
  refine make_at (d := kBool) t.nodes.length false (zc := [.bool false]) (by_ := 1) (e := 4) true (by kernel_rfl : atB _ _ _ true = some (Op.makeSlice 92 (tmpO 22) (tmpO 22), 92, some 23, Rg.sq (bitL 4 7) 5)) (by kernel_rfl) (by kernel_rfl) rfl rfl rfl rfl (by omega) (by simp only [maxLen]; omega) (fun _ => rfl) ?_
  intro g0
  refine h_erase 1 _ rfl ?_
  refine go mixed 2000 [4, 26, 27, 29] 2 (St.mk (Rg.sq (bitL 5 15) 4) [kCd (bitL 5 31)] [(4, vR 1 0), (26, SV.agg [cS Atnodes t.nodes.length ctnodes, cI t.root]), (27, vR 1 0), (29, vI t.root)] [LB.mk [cS Atnodes t.nodes.length ctnodes, cI t.root] 29, LB.mk [cS (some (Addr.mk g0 0 none)) t.nodes.length t.nodes.length, cI 0, SC.bo false, cS none 0 0] 94]) (by kernel_rfl) (by kernel_rfl) (by kernel_rfl) ?_
  refine call_lb (hh := 1) (A := [rowA 4 kBool (List.replicate t.nodes.length false) (.slice (some ⟨g0, 0, none⟩) t.nodes.length t.nodes.length), rowA 101 (kCells 5) [] (.slice none 0 0)]) (vals := [.slice (some ⟨g0, 0, none⟩) t.nodes.length t.nodes.length, .int .i64 0, .bool false, .slice none 0 0]) (by kernel_rfl : atC _ _ _ false = some (97, [SV.agg [cS Atnodes t.nodes.length ctnodes, cI t.root], vR 1 0, vI t.root, vI 1, vS none 0 0, vS none 0 0], some 30, Rg.sq (bitL 5 15) 5)) (by kernel_rfl) rfl rfl (fun L w1 S1 hs hA hS1 hT2 hne => (go_ok t.nodes _ _ t.root w0 hrtnodes (fun n hn e he => ⟨hkl n hn e he, hby n hn e he⟩) (by omega) hsz2 (t.nodes.length + 1) ([], 0) [] ⟨some ⟨g0, 0, none⟩, t.nodes.length, t.nodes.length, 0, false, none, 0, List.replicate t.nodes.length false, []⟩ t.root 1 none none _ _ _ S1 w1 hA hS1 (Nat.le_trans h0 hs.1.1.size) (fun b hb => (old_apart hT2 0 rfl).1 b (Nat.lt_of_lt_of_le hb h0)) (fun b hb => ((old_apart hT2 0 rfl).2 b (Nat.lt_of_lt_of_le hb h0)).trans (hag b hb)) rfl rfl ⟨List.nodup_nil, fun x hx => by simp at hx⟩ (by simp) (by omega) rfl rfl ⟨by simp, fun i h => by simp⟩ ⟨rfl, fun i x cs h => by simp at h⟩ (by simp) rfl).mono ?_)
  rintro e w2 ⟨⟨A3, m3, n3, deep3, wrong3, B3, c3, bs3, css3⟩, rfl, hm, ⟨hb3, hm3⟩, hr3⟩
  refine ⟨.one (.v (.tuple #[])), [.v (.slice A3 m3 n3), .v (.int .i64 deep3), .bo wrong3, .v (.slice B3 css3.length c3)], _, [rowA 4 kBool bs3 (.slice A3 m3 n3), rowA 101 (kCells 5) css3 (.slice B3 css3.length c3)], rfl, rfl, hm, ?_⟩
  clear hm hs hA hS1 hT2 hne
  simp only at hb3 hm3
  refine h_own_g (by omega) (fun g1 hA => ?_)
  cases hA
  refine go mixed 2000 [4, 5] 2 (St.mk Rg.no [kLp (bitL 9 479), KI.block 0, kCd (bitL 6 63)] [(4, vR 1 0), (5, vI 0)] [LB.mk [cS Atnodes t.nodes.length ctnodes, cI t.root] 29, LB.mk [cS (some (Addr.mk g1 0 none)) m3 n3, cI deep3, SC.bo wrong3, cS B3 css3.length c3] 94]) (by kernel_rfl) (by kernel_rfl) (by kernel_rfl) ?_
  cases hc : treeR t with
  | none =>
    unfold treeR at hc
    rw [hc] at hr3
    simp only at hr3
    subst hr3
    refine loop_at (ι := Nat) (fun i => [(5, .one (.v (.int .i64 i)))]) (fun _ => []) (fun i => [rowA 4 kBool bs3 (.slice (some ⟨g1, 0, none⟩) m3 n3), rowA 101 (kCells 5) css3 (.slice B3 css3.length c3), oldA w]) (fun i => i ≤ m3 ∧ True) (fun i => m3 - i) 0 rfl rfl rfl ⟨Nat.zero_le _, trivial⟩ ?_
    intro i hI ih
    refine go mixed 2000 [4, 5, 37] 2 (St.mk Rg.no [kCd (bitL 11 1503), kCd (bitL 10 991), kLp (bitL 9 479), KI.block 0, kCd (bitL 6 63)] [(4, vR 1 0), (5, vI (↑i : Int)), (37, vB (decide ((↑i : Int) < (↑m3 : Int))))] [LB.mk [cS Atnodes t.nodes.length ctnodes, cI t.root] 29, LB.mk [cS (some (Addr.mk g1 0 none)) m3 n3, cI deep3, SC.bo true, cS B3 css3.length c3] 94]) (by kernel_rfl) (by kernel_rfl) (by kernel_rfl) ?_
    refine split_at 37 (b := decide ((↑i : Int) < (↑m3 : Int))) (by kernel_rfl) (by kernel_rfl) ?_ ?_
    · intro hb4
      replace hb4 := of_decide_eq_true hb4
      refine go mixed 2000 [4, 5, 43, 44] 2 (St.mk (Rg.sq (bitL 13 3039) 5) [kCd (bitL 13 7135), KI.block 1, kCd (bitL 11 2015), kLp (bitL 9 479), KI.block 0, kCd (bitL 6 63)] [(4, vR 1 0), (5, vI (↑i : Int)), (43, vS (some (Addr.mk g1 0 none)) m3 n3), (44, vI (↑i : Int))] [LB.mk [cS Atnodes t.nodes.length ctnodes, cI t.root] 29, LB.mk [cS (some (Addr.mk g1 0 none)) m3 n3, cI deep3, SC.bo true, cS B3 css3.length c3] 94]) (by kernel_rfl) (by kernel_rfl) (by kernel_rfl) ?_
      refine index_at 5 (by kernel_rfl : atP _ _ _ 5 false = some (Op.indexAddr 92 (tmpO 43) (tmpO 44), 0, some 45, Rg.sq (bitL 13 3039) 6)) (ni := i) (sz := 1) (by kernel_rfl) rfl rfl rfl (by omega) (fun L w1 hs => rd_some (i := i) (hs.rd 0 rfl) (by omega)) ?_
      intro a_1 ha_1
      cases ha_1
      refine go mixed 2000 [4, 5, 45] 2 (St.mk (Rg.sq (bitL 13 3039) 6) [kCd (bitL 13 7135), KI.block 1, kCd (bitL 11 2015), kLp (bitL 9 479), KI.block 0, kCd (bitL 6 63)] [(4, vR 1 0), (5, vI (↑i : Int)), (45, vP ((Addr.mk g1 0 none).add (i * 1)))] [LB.mk [cS Atnodes t.nodes.length ctnodes, cI t.root] 29, LB.mk [cS (some (Addr.mk g1 0 none)) m3 n3, cI deep3, SC.bo true, cS B3 css3.length c3] 94]) (by kernel_rfl) (by kernel_rfl) (by kernel_rfl) ?_
      refine load_one 6 (by kernel_rfl : atP _ _ _ 6 true = some (Op.load 4 (tmpO 45), 4, some 46, Rg.sq (bitL 13 3039) 7)) (n := 1) (by kernel_rfl) rfl ?_
      intro L w1 hs
      refine ⟨.bo ((bs3)[i]'(by omega)), rd_sc (hs.rd 0 rfl) (by omega), ?_⟩
      clear hs
      refine go mixed 2000 [4, 5, 47] 2 (St.mk Rg.no [kCd (bitL 13 7135), KI.block 1, kCd (bitL 11 2015), kLp (bitL 9 479), KI.block 0, kCd (bitL 6 63)] [(4, vR 1 0), (5, vI (↑i : Int)), (47, vB !bs3[i])] [LB.mk [cS Atnodes t.nodes.length ctnodes, cI t.root] 29, LB.mk [cS (some (Addr.mk g1 0 none)) m3 n3, cI deep3, SC.bo true, cS B3 css3.length c3] 94]) (by kernel_rfl) (by kernel_rfl) (by kernel_rfl) ?_
      refine split_at 47 (b := !bs3[i]) (by kernel_rfl) (by kernel_rfl) ?_ ?_
      · intro hb5
        try simp only [decide_eq_true_eq, decide_eq_false_iff_not, Bool.not_eq_true', Bool.not_eq_false', Bool.and_eq_true, Bool.or_eq_true, Bool.and_eq_false_imp, bne_iff_ne, beq_iff_eq, bne_eq_false_iff_eq, beq_eq_false_iff_ne, ne_eq, Decidable.not_not, Int.not_le, Int.not_lt, Nat.not_le, Nat.not_lt] at hb5
        refine go mixed 2000 [2, 3] 2 (St.mk Rg.no [kCd (bitL 15 23519), KI.block 1, kCd (bitL 11 2015), kLp (bitL 9 479), KI.block 0, kCd (bitL 6 63)] [(2, vR 1 0), (3, vL false)] [LB.mk [cS Atnodes t.nodes.length ctnodes, cI t.root] 29, LB.mk [cS (some (Addr.mk g1 0 none)) m3 n3, cI deep3, SC.bo true, cS B3 css3.length c3] 94]) (by kernel_rfl) (by kernel_rfl) (by kernel_rfl) ?_
        refine ret_ok (vs := [vR 1 0, vL false]) (by kernel_rfl) ?_
        intro L w1 hs
        exact ⟨_, ⟨some ⟨g1, 0, none⟩, m3, n3, deep3, true, B3, c3, bs3, css3⟩, false, rfl, outL (As := [_, _]) hs 1 rfl rfl, look_no hlen hc, fun h => by cases h⟩
      · intro hb5
        try simp only [decide_eq_true_eq, decide_eq_false_iff_not, Bool.not_eq_true', Bool.not_eq_false', Bool.and_eq_true, Bool.or_eq_true, Bool.and_eq_false_imp, bne_iff_ne, beq_iff_eq, bne_eq_false_iff_eq, beq_eq_false_iff_ne, ne_eq, Decidable.not_not, Int.not_le, Int.not_lt, Nat.not_le, Nat.not_lt] at hb5
        refine go mixed 2000 [4, 5] 2 (St.mk Rg.no [kLp (bitL 9 479), KI.block 0, kCd (bitL 6 63)] [(4, vR 1 0), (5, vI (IntKind.i64.wrap ((↑i : Int) + 1)))] [LB.mk [cS Atnodes t.nodes.length ctnodes, cI t.root] 29, LB.mk [cS (some (Addr.mk g1 0 none)) m3 n3, cI deep3, SC.bo true, cS B3 css3.length c3] 94]) (by kernel_rfl) (by kernel_rfl) (by kernel_rfl) ?_
        rw [wrap_succ (by omega)]; exact ih (i + 1) ⟨by omega, trivial⟩ (by omega)
    · intro hb4
      replace hb4 := of_decide_eq_false hb4
      refine go mixed 2000 [2, 3] 2 (St.mk Rg.no [kCd (bitL 7 127)] [(2, vR 1 0), (3, vB false)] [LB.mk [cS Atnodes t.nodes.length ctnodes, cI t.root] 29, LB.mk [cS (some (Addr.mk g1 0 none)) m3 n3, cI deep3, SC.bo true, cS B3 css3.length c3] 94]) (by kernel_rfl) (by kernel_rfl) (by kernel_rfl) ?_
      refine ret_ok (vs := [vR 1 0, vB false]) (by kernel_rfl) ?_
      intro L w1 hs
      exact ⟨_, ⟨some ⟨g1, 0, none⟩, m3, n3, deep3, true, B3, c3, bs3, css3⟩, false, rfl, outL (As := [_, _]) hs 1 rfl rfl, look_no hlen hc, fun h => by cases h⟩
  | some x =>
    have hgd := (chk_inv (T := t.nodes) (t.nodes.length + 1) _ _ _ _ _ _ hc ⟨List.nodup_nil, fun x hx => by simp at hx⟩).1
    have hc' := hc
    unfold treeR at hc
    rw [hc] at hr3
    obtain ⟨hw3, hd3, hs3, ha3, hcs3⟩ := hr3
    simp only at hw3 hd3 hs3 ha3 hcs3
    subst hw3 hd3
    refine loop_at (ι := Nat) (fun i => [(5, .one (.v (.int .i64 i)))]) (fun _ => []) (fun i => [rowA 4 kBool bs3 (.slice (some ⟨g1, 0, none⟩) m3 n3), rowA 101 (kCells 5) css3 (.slice B3 css3.length c3), oldA w]) (fun i => i ≤ m3 ∧ ∀ (j : Nat) (h : j < bs3.length), j < i → bs3[j] = true) (fun i => m3 - i) 0 rfl rfl rfl ⟨Nat.zero_le _, fun j h hj => by omega⟩ ?_
    intro i hI ih
    refine go mixed 2000 [4, 5, 37] 2 (St.mk Rg.no [kCd (bitL 11 1503), kCd (bitL 10 991), kLp (bitL 9 479), KI.block 0, kCd (bitL 6 63)] [(4, vR 1 0), (5, vI (↑i : Int)), (37, vB (decide ((↑i : Int) < (↑m3 : Int))))] [LB.mk [cS Atnodes t.nodes.length ctnodes, cI t.root] 29, LB.mk [cS (some (Addr.mk g1 0 none)) m3 n3, cI x.snd, SC.bo false, cS B3 css3.length c3] 94]) (by kernel_rfl) (by kernel_rfl) (by kernel_rfl) ?_
    refine split_at 37 (b := decide ((↑i : Int) < (↑m3 : Int))) (by kernel_rfl) (by kernel_rfl) ?_ ?_
    · intro hb4
      replace hb4 := of_decide_eq_true hb4
      refine go mixed 2000 [4, 5, 43, 44] 2 (St.mk (Rg.sq (bitL 13 3039) 5) [kCd (bitL 13 7135), KI.block 1, kCd (bitL 11 2015), kLp (bitL 9 479), KI.block 0, kCd (bitL 6 63)] [(4, vR 1 0), (5, vI (↑i : Int)), (43, vS (some (Addr.mk g1 0 none)) m3 n3), (44, vI (↑i : Int))] [LB.mk [cS Atnodes t.nodes.length ctnodes, cI t.root] 29, LB.mk [cS (some (Addr.mk g1 0 none)) m3 n3, cI x.snd, SC.bo false, cS B3 css3.length c3] 94]) (by kernel_rfl) (by kernel_rfl) (by kernel_rfl) ?_
      refine index_at 5 (by kernel_rfl : atP _ _ _ 5 false = some (Op.indexAddr 92 (tmpO 43) (tmpO 44), 0, some 45, Rg.sq (bitL 13 3039) 6)) (ni := i) (sz := 1) (by kernel_rfl) rfl rfl rfl (by omega) (fun L w1 hs => rd_some (i := i) (hs.rd 0 rfl) (by omega)) ?_
      intro a_1 ha_1
      cases ha_1
      refine go mixed 2000 [4, 5, 45] 2 (St.mk (Rg.sq (bitL 13 3039) 6) [kCd (bitL 13 7135), KI.block 1, kCd (bitL 11 2015), kLp (bitL 9 479), KI.block 0, kCd (bitL 6 63)] [(4, vR 1 0), (5, vI (↑i : Int)), (45, vP ((Addr.mk g1 0 none).add (i * 1)))] [LB.mk [cS Atnodes t.nodes.length ctnodes, cI t.root] 29, LB.mk [cS (some (Addr.mk g1 0 none)) m3 n3, cI x.snd, SC.bo false, cS B3 css3.length c3] 94]) (by kernel_rfl) (by kernel_rfl) (by kernel_rfl) ?_
      refine load_one 6 (by kernel_rfl : atP _ _ _ 6 true = some (Op.load 4 (tmpO 45), 4, some 46, Rg.sq (bitL 13 3039) 7)) (n := 1) (by kernel_rfl) rfl ?_
      intro L w1 hs
      refine ⟨.bo ((bs3)[i]'(by omega)), rd_sc (hs.rd 0 rfl) (by omega), ?_⟩
      clear hs
      refine go mixed 2000 [4, 5, 47] 2 (St.mk Rg.no [kCd (bitL 13 7135), KI.block 1, kCd (bitL 11 2015), kLp (bitL 9 479), KI.block 0, kCd (bitL 6 63)] [(4, vR 1 0), (5, vI (↑i : Int)), (47, vB !bs3[i])] [LB.mk [cS Atnodes t.nodes.length ctnodes, cI t.root] 29, LB.mk [cS (some (Addr.mk g1 0 none)) m3 n3, cI x.snd, SC.bo false, cS B3 css3.length c3] 94]) (by kernel_rfl) (by kernel_rfl) (by kernel_rfl) ?_
      refine split_at 47 (b := !bs3[i]) (by kernel_rfl) (by kernel_rfl) ?_ ?_
      · intro hb5
        try simp only [decide_eq_true_eq, decide_eq_false_iff_not, Bool.not_eq_true', Bool.not_eq_false', Bool.and_eq_true, Bool.or_eq_true, Bool.and_eq_false_imp, bne_iff_ne, beq_iff_eq, bne_eq_false_iff_eq, beq_eq_false_iff_ne, ne_eq, Decidable.not_not, Int.not_le, Int.not_lt, Nat.not_le, Nat.not_lt] at hb5
        refine go mixed 2000 [2, 3] 2 (St.mk Rg.no [kCd (bitL 15 23519), KI.block 1, kCd (bitL 11 2015), kLp (bitL 9 479), KI.block 0, kCd (bitL 6 63)] [(2, vR 1 0), (3, vL false)] [LB.mk [cS Atnodes t.nodes.length ctnodes, cI t.root] 29, LB.mk [cS (some (Addr.mk g1 0 none)) m3 n3, cI x.snd, SC.bo false, cS B3 css3.length c3] 94]) (by kernel_rfl) (by kernel_rfl) (by kernel_rfl) ?_
        refine ret_ok (vs := [vR 1 0, vL false]) (by kernel_rfl) ?_
        intro L w1 hs
        exact ⟨_, ⟨some ⟨g1, 0, none⟩, m3, n3, x.2, false, B3, c3, bs3, css3⟩, false, rfl, outL (As := [_, _]) hs 1 rfl rfl, look_some hlen hc' (decide_eq_false (fun he => by have := (seen_all hs3 hgd).2 he i (by omega); simp_all)).symm, fun h => by cases h⟩
      · intro hb5
        try simp only [decide_eq_true_eq, decide_eq_false_iff_not, Bool.not_eq_true', Bool.not_eq_false', Bool.and_eq_true, Bool.or_eq_true, Bool.and_eq_false_imp, bne_iff_ne, beq_iff_eq, bne_eq_false_iff_eq, beq_eq_false_iff_ne, ne_eq, Decidable.not_not, Int.not_le, Int.not_lt, Nat.not_le, Nat.not_lt] at hb5
        refine go mixed 2000 [4, 5] 2 (St.mk Rg.no [kLp (bitL 9 479), KI.block 0, kCd (bitL 6 63)] [(4, vR 1 0), (5, vI (IntKind.i64.wrap ((↑i : Int) + 1)))] [LB.mk [cS Atnodes t.nodes.length ctnodes, cI t.root] 29, LB.mk [cS (some (Addr.mk g1 0 none)) m3 n3, cI x.snd, SC.bo false, cS B3 css3.length c3] 94]) (by kernel_rfl) (by kernel_rfl) (by kernel_rfl) ?_
        rw [wrap_succ (by omega)]; exact ih (i + 1) ⟨by omega, fun j h hj => (by rcases Nat.lt_succ_iff_lt_or_eq.1 hj with h1 | h1; exact hI.2 j h h1; subst h1; assumption)⟩ (by omega)
    · intro hb4
      replace hb4 := of_decide_eq_false hb4
      refine go mixed 2000 [2, 3] 2 (St.mk Rg.no [kCd (bitL 7 127)] [(2, vR 1 0), (3, vB true)] [LB.mk [cS Atnodes t.nodes.length ctnodes, cI t.root] 29, LB.mk [cS (some (Addr.mk g1 0 none)) m3 n3, cI x.snd, SC.bo false, cS B3 css3.length c3] 94]) (by kernel_rfl) (by kernel_rfl) (by kernel_rfl) ?_
      refine ret_ok (vs := [vR 1 0, vB true]) (by kernel_rfl) ?_
      intro L w1 hs
      exact ⟨_, ⟨some ⟨g1, 0, none⟩, m3, n3, x.2, false, B3, c3, bs3, css3⟩, true, rfl, outL (As := [_, _]) hs 1 rfl rfl, look_some hlen hc' (decide_eq_true ((seen_all hs3 hgd).1 (fun j h => hI.2 j h (by omega)))).symm, fun _ => ⟨x, hc', rfl, by simpa using ha3, Nat.le_trans hcs3 (Nat.mul_le_mul_left 4 (goodS_len hgd))⟩⟩

theorem l11look_ok (t : Tr) (cst : List Value) (w : World) (ht : kTr.rd w.heap t cst) (hz : zTr t ≤ 1048576) (hby : byTr t) :
    Calls Try.prog 53 #[.agg cst.toArray] w fun e w' => ∃ (g : Nat) (k : Wk) (b : Bool), e = .returned (.tuple #[.pointer (some ⟨g, 0, none⟩), .bool b]) ∧ Fresh w w' [blkA g k.vals 94, rowA 4 kBool k.bs (.slice k.A k.m k.n), rowA 101 (kCells 5) k.css (.slice k.B k.css.length k.c)] ∧ b = treeOk t ∧ LookSaid w t b k := l11look_at t cst w w ht (Nat.le_refl _) (fun _ _ => rfl) hz hby

theorem sTreeOk_ok (t : Tr) (cst : List Value) (w : World) (ht : kTr.rd w.heap t cst) (hz : zTr t ≤ 1048576) (hby : byTr t) :
    Calls Try.prog 13 #[.agg cst.toArray] w fun e w' => e = .returned (.bool (treeOk t)) ∧ Below w.heap.size w w' := by
  obtain ⟨Atnodes, ctnodes, rfl, hrtnodes⟩ := kTr_inv ht
  refine enter (args := [.agg [.v (.slice Atnodes t.nodes.length ctnodes), .v (.int .i64 t.root)]]) Try.func13 (c := bodyOf Try.f13) rfl rfl (start_LOK _) (start_old w) ?_
  refine go mixed 2000 [6] 0 (St.mk (Rg.sq [true, false] 1) [KI.code [true, true]] [(6, SV.agg [cS Atnodes t.nodes.length ctnodes, cI t.root])] []) (by kernel_rfl) (by kernel_rfl) (by kernel_rfl) ?_
  refine call_at true (by kernel_rfl : atC _ _ _ true = some (53, [SV.agg [cS Atnodes t.nodes.length ctnodes, cI t.root]], some 7, Rg.sq [true, false] 2)) (by kernel_rfl) (fun L w1 hs => (Go.Proofs.Ytgleoebogikooaa.Dk.l11look_ok (t) ([Value.slice Atnodes t.nodes.length ctnodes, Value.int IntKind.i64 t.root]) w1 (Go.Proofs.Ytgleoebogikooaa.Dk.kTr_mk (rdRow_ext (hs.old 0 rfl) hrtnodes)) (by assumption) (by assumption)).mono ?_)
  rintro e_ w2_ ⟨g_1, k_1, b_1, rfl, hf_, hq1, hq2⟩
  refine ⟨.one (.v (Value.tuple #[Value.pointer (some (Addr.mk g_1 0 none)), Value.bool b_1])), _, _, rfl, fun _ => hf_.1.block, hs.fresh hf_, ?_⟩
  clear hs hf_
  refine go mixed 2000 [2] 0 (St.mk Rg.no [kCd (bitL 3 7)] [(2, vB b_1)] []) (by kernel_rfl) (by kernel_rfl) (by kernel_rfl) ?_
  refine ret_ok (vs := [vB b_1]) (by kernel_rfl) ?_
  intro L w1 hs
  exact ⟨retB (by assumption), (hs.erases [0, 0, 0]).out0⟩

end Go.Proofs.Ytgleoebogikooaa.Dk
