/- Walks of functions of the program: what each call returns and what it leaves in memory. Conditions: those that each theorem names. -/
import Derived.Test.YtgleoebogikooaaH1
namespace Go.Proofs.Ytgleoebogikooaa.Dk
set_option linter.unusedVariables false
set_option linter.unusedSimpArgs false
open Go.Proofs.Ytgleoebogikooaa.Sx Go.Proofs Go.RowKit
set_option maxRecDepth 100000
set_option maxHeartbeats 1000000
/-- the leaf that is come to by the first kids, and how many steps -/
def LL (T : List Nd) : Nat → Int → Prop
  | 0, at_ => ∃ n, 0 ≤ at_ ∧ T[at_.toNat]? = some n ∧ n.leaf = true
  | k + 1, at_ => ∃ n kid, 0 ≤ at_ ∧ T[at_.toNat]? = some n ∧ n.leaf = false ∧ n.kids[0]? = some kid ∧ LL T k kid
theorem kidsF_keep {c : CS → Int → Option En → Option En → Option CS} {n : Nd} {lo hi : Option En} (hc : ∀ s k lo hi s', c s k lo hi = some s' → s.2 ≠ 0 → s'.2 = s.2) :
    ∀ (l : List Int) (i : Nat) (s s' : CS), kidsF c n lo hi l i s = some s' → s.2 ≠ 0 → s'.2 = s.2
  | [], i, s, s', h, _ => by cases h; rfl
  | k :: r, i, s, s', h, hg => by
    simp only [kidsF] at h
    split at h
    · cases h
    · rename_i s1 h1
      have e1 := hc _ _ _ _ _ h1 hg
      rw [kidsF_keep hc r (i + 1) s1 s' h (by rw [e1]; exact hg), e1]
theorem chk_open {T : List Nd} {f : Nat} {s : CS} {at_ dp : Int} {lo hi : Option En} {s' : CS} (h : chk T (f + 1) s at_ dp lo hi = some s') : ∃ hlt : at_.toNat < T.length, 0 ≤ at_ ∧ nodeOk T[at_.toNat] = true ∧
    ((T[at_.toNat].leaf = true ∧ (if s.2 = 0 then dp else s.2) = dp ∧ s' = (s.1 ++ [at_], dp)) ∨ (T[at_.toNat].leaf = false ∧ kidsF (fun s k lo hi => chk T f s k (dp + 1) lo hi) T[at_.toNat] lo hi T[at_.toNat].kids 0 (s.1 ++ [at_], s.2) = some s')) := by
  rcases Nat.lt_or_ge at_.toNat T.length with hlt | hge
  · by_cases hc : ((0 ≤ at_ ∧ at_ ∉ s.1) ∧ nodeOk T[at_.toNat] = true ∧ T[at_.toNat].entries.all (fun e => okLo lo e && okHi hi e) = true)
    · rw [chk_yes hlt hc] at h
      refine ⟨hlt, hc.1.1, hc.2.1, ?_⟩
      cases hl : T[at_.toNat].leaf with
      | true =>
        rw [if_pos hl] at h
        by_cases hq : (if s.2 = 0 then dp else s.2) = dp
        · rw [if_pos hq, hq] at h
          exact .inl ⟨rfl, hq, (Option.some.inj h).symm⟩
        · rw [if_neg hq] at h
          cases h
      | false =>
        rw [if_neg (by rw [hl]; decide)] at h
        exact .inr ⟨rfl, h⟩
    · rw [chk_no hlt hc] at h
      cases h
  · unfold chk at h
    rw [List.getElem?_eq_none hge] at h
    cases h
theorem chk_keep {T : List Nd} : ∀ (f : Nat) (s : CS) (at_ dp : Int) (lo hi : Option En) (s' : CS), chk T f s at_ dp lo hi = some s' → s.2 ≠ 0 → s'.2 = s.2
  | 0, _, _, _, _, _, _, h, _ => by cases h
  | f + 1, s, at_, dp, lo, hi, s', h, hg => by
    obtain ⟨hlt, _, _, ⟨_, hq, rfl⟩ | ⟨_, h⟩⟩ := chk_open h
    · rw [if_neg hg] at hq
      exact hq.symm
    · exact (kidsF_keep (fun s k lo hi s' h hg => chk_keep f s k (dp + 1) lo hi s' h hg) _ _ (s.1 ++ [at_], s.2) _ h hg : s'.2 = s.2)
theorem chk_ll {T : List Nd} : ∀ (f : Nat) (s : CS) (at_ dp : Int) (lo hi : Option En) (s' : CS), chk T f s at_ dp lo hi = some s' → s.2 = 0 → 1 ≤ dp → ∃ k, LL T k at_ ∧ s'.2 = dp + (k : Int) ∧ k < f
  | 0, _, _, _, _, _, _, h, _, _ => by cases h
  | f + 1, s, at_, dp, lo, hi, s', h, hg, hd => by
    obtain ⟨hlt, h0, hno, ⟨hl, hq, rfl⟩ | ⟨hl, h⟩⟩ := chk_open h
    · exact ⟨0, ⟨_, h0, List.getElem?_eq_getElem hlt, hl⟩, by simp, by omega⟩
    · have hk := (nodeOk_parts hno).2.2.2.2 hl
      obtain ⟨k0, r, hkr⟩ : ∃ k0 r, T[at_.toNat].kids = k0 :: r := by
        cases hkk : T[at_.toNat].kids with
        | nil => rw [hkk] at hk; simp at hk
        | cons a b => exact ⟨a, b, rfl⟩
      rw [hkr] at h
      simp only [kidsF] at h
      split at h
      · cases h
      · rename_i s1 h1
        obtain ⟨k, h2, h3, h4⟩ := chk_ll f _ _ _ _ _ _ h1 hg (by omega)
        have h5 := kidsF_keep (fun s k lo hi s' h hg => chk_keep f s k (dp + 1) lo hi s' h hg) _ _ _ _ h (by rw [h3]; omega)
        exact ⟨k + 1, ⟨_, k0, h0, List.getElem?_eq_getElem hlt, hl, by rw [hkr]; rfl, h2⟩, by rw [h5, h3]; push_cast; omega, by omega⟩
def htT (t : Tr) : Int := if treeOk t = true then (match treeR t with
  | some x => x.2
  | none => 0) else 0
theorem ht_no {t : Tr} {b : Bool} (h : b = treeOk t) (hb : b = false) : htT t = 0 := by
  unfold htT
  rw [← h, hb]
  rfl
theorem ht_yes {t : Tr} {b : Bool} {x : CS} (h : b = treeOk t) (hb : b = true) (hx : treeR t = some x) : htT t = x.2 := by
  unfold htT
  rw [← h, hb, hx]
  rfl
theorem treeOk_R {t : Tr} (h : treeOk t = true) : ∃ x, treeR t = some x := by
  unfold treeOk at h
  cases hx : treeR t with
  | some x => exact ⟨x, rfl⟩
  | none => rw [hx] at h; simp at h
theorem blk_at {h : Hp} {g ty : Nat} {vs : List Value} (hg : h[g]? = some (.cells vs.toArray ty (0, 0))) (k : Nat) {v : Value} (hv : vs[k]? = some v) : cellH h ((⟨g, 0, none⟩ : Addr).add k) = some v := by
  rw [add_at]
  simp only [cellH, hg, Option.isSome_none, Bool.false_eq_true, if_false, Nat.zero_add]
  simpa using hv
theorem sTreeHeight_ok (t : Tr) (cst : List Value) (w : World) (ht : kTr.rd w.heap t cst) (hz : zTr t ≤ 1048576) (hby : byTr t) :
    Calls Try.prog 17 #[.agg cst.toArray] w fun e w' => e = .returned (.int .i64 (htT t)) ∧ Below w.heap.size w w' := by
  obtain ⟨Atnodes, ctnodes, rfl, hrtnodes⟩ := kTr_inv ht
  refine enter (args := [.agg [.v (.slice Atnodes t.nodes.length ctnodes), .v (.int .i64 t.root)]]) Try.func17 (c := bodyOf Try.f17) rfl rfl (start_LOK _) (start_old w) ?_
  refine go mixed 2000 [6] 0 (St.mk (Rg.sq [true, false] 1) [KI.code [true, true]] [(6, SV.agg [cS Atnodes t.nodes.length ctnodes, cI t.root])] []) (by kernel_rfl) (by kernel_rfl) (by kernel_rfl) ?_
  refine call_at true (by kernel_rfl : atC _ _ _ true = some (53, [SV.agg [cS Atnodes t.nodes.length ctnodes, cI t.root]], some 7, Rg.sq [true, false] 2)) (by kernel_rfl) (fun L w1 hs => (Go.Proofs.Ytgleoebogikooaa.Dk.l11look_ok (t) ([Value.slice Atnodes t.nodes.length ctnodes, Value.int IntKind.i64 t.root]) w1 (Go.Proofs.Ytgleoebogikooaa.Dk.kTr_mk (rdRow_ext (hs.old 0 rfl) hrtnodes)) (by assumption) (by assumption)).mono ?_)
  rintro e_ w2_ ⟨g_1, k_1, b_1, rfl, hf_, hq1, hq2⟩
  refine ⟨.one (.v (Value.tuple #[Value.pointer (some (Addr.mk g_1 0 none)), Value.bool b_1])), _, _, rfl, fun _ => hf_.1.block, hs.fresh hf_, ?_⟩
  clear hs hf_
  refine go mixed 2000 [3, 11] 0 (St.mk Rg.no [kCd (bitL 4 11), kCd (bitL 3 7)] [(3, vP (Addr.mk g_1 0 none)), (11, vB !b_1)] []) (by kernel_rfl) (by kernel_rfl) (by kernel_rfl) ?_
  refine split_at 11 (b := !b_1) (by kernel_rfl) (by kernel_rfl) ?_ ?_
  · intro hb1
    try simp only [decide_eq_true_eq, decide_eq_false_iff_not, Bool.not_eq_true', Bool.not_eq_false', Bool.and_eq_true, Bool.or_eq_true, Bool.and_eq_false_imp, bne_iff_ne, beq_iff_eq, bne_eq_false_iff_eq, beq_eq_false_iff_ne, ne_eq, Decidable.not_not, Int.not_le, Int.not_lt, Nat.not_le, Nat.not_lt] at hb1
    refine go mixed 2000 [2] 0 (St.mk Rg.no [kCd (bitL 6 43), kCd (bitL 3 7)] [(2, vI 0)] []) (by kernel_rfl) (by kernel_rfl) (by kernel_rfl) ?_
    refine ret_ok (vs := [vI 0]) (by kernel_rfl) ?_
    intro L w1 hs
    exact ⟨retI (ht_no (by assumption) (by assumption)).symm, (hs.erases [0, 0, 0]).out0⟩
  intro hb1
  try simp only [decide_eq_true_eq, decide_eq_false_iff_not, Bool.not_eq_true', Bool.not_eq_false', Bool.and_eq_true, Bool.or_eq_true, Bool.and_eq_false_imp, bne_iff_ne, beq_iff_eq, bne_eq_false_iff_eq, beq_eq_false_iff_ne, ne_eq, Decidable.not_not, Int.not_le, Int.not_lt, Nat.not_le, Nat.not_lt] at hb1
  refine go mixed 2000 [14] 0 (St.mk (Rg.sq (bitL 4 7) 3) [kCd (bitL 4 15)] [(14, vP ((Addr.mk g_1 0 none).add 1))] []) (by kernel_rfl) (by kernel_rfl) (by kernel_rfl) ?_
  obtain ⟨x, hx, hd, _⟩ := hq2 (by assumption)
  refine load_one 3 (by kernel_rfl : atP _ _ _ 3 true = some (Op.load 3 (tmpO 14), 3, some 15, Rg.sq (bitL 4 7) 4)) (n := 1) (by kernel_rfl) rfl ?_
  intro L w1 hs
  obtain ⟨_, _, _, hblk⟩ := hs.at_ 0 rfl
  refine ⟨.v (.int .i64 k_1.deep), blk_at hblk 1 rfl, ?_⟩
  clear hs hblk
  refine go mixed 2000 [2] 0 (St.mk Rg.no [kCd (bitL 4 15)] [(2, vI k_1.deep)] []) (by kernel_rfl) (by kernel_rfl) (by kernel_rfl) ?_
  refine ret_ok (vs := [vI k_1.deep]) (by kernel_rfl) ?_
  intro L w1 hs
  exact ⟨retI ((ht_yes (by assumption) (by assumption) hx).trans hd.symm).symm, (hs.erases [0, 0, 0]).out0⟩

theorem iTreeHeight_ok (t : Tr) (cst : List Value) (w : World) (ht : kTr.rd w.heap t cst) (hz : zTr t ≤ 1048576) (hby : byTr t) :
    Calls Try.prog 18 #[.agg cst.toArray] w fun e w' => e = .returned (.int .i64 (htT t)) ∧ Below w.heap.size w w' := by
  obtain ⟨Atnodes, ctnodes, rfl, hrtnodes⟩ := kTr_inv ht
  refine enter (args := [.agg [.v (.slice Atnodes t.nodes.length ctnodes), .v (.int .i64 t.root)]]) Try.func18 (c := bodyOf Try.f18) rfl rfl (start_LOK _) (start_old w) ?_
  refine go mixed 2000 [1, 5] 1 (St.mk (Rg.sq (bitL 3 1) 1) [kCd (bitL 3 5), KI.code [true, true]] [(1, vR 0 0), (5, SV.agg [cS Atnodes t.nodes.length ctnodes, cI t.root])] [LB.mk [cS Atnodes t.nodes.length ctnodes, cI t.root] 29]) (by kernel_rfl) (by kernel_rfl) (by kernel_rfl) ?_
  refine call_pure true (by kernel_rfl : atC _ _ _ true = some (15, [SV.agg [cS Atnodes t.nodes.length ctnodes, cI t.root]], some 6, Rg.sq (bitL 3 1) 2)) (by kernel_rfl) (.one (.bo (treeOk t))) (fun L w1 hs => (Go.Proofs.Ytgleoebogikooaa.Dk.iTreeOk_ok (t) ([Value.slice Atnodes t.nodes.length ctnodes, Value.int IntKind.i64 t.root]) w1 (Go.Proofs.Ytgleoebogikooaa.Dk.kTr_mk (rdRow_ext (hs.old 0 rfl) hrtnodes)) (by assumption) (by assumption))) ?_
  refine go mixed 2000 [1, 7] 1 (St.mk Rg.no [kCd (bitL 3 5), KI.code [true, true]] [(1, vR 0 0), (7, vB !treeOk t)] [LB.mk [cS Atnodes t.nodes.length ctnodes, cI t.root] 29]) (by kernel_rfl) (by kernel_rfl) (by kernel_rfl) ?_
  refine split_at 7 (b := !treeOk t) (by kernel_rfl) (by kernel_rfl) ?_ ?_
  · intro hb1
    try simp only [decide_eq_true_eq, decide_eq_false_iff_not, Bool.not_eq_true', Bool.not_eq_false', Bool.and_eq_true, Bool.or_eq_true, Bool.and_eq_false_imp, bne_iff_ne, beq_iff_eq, bne_eq_false_iff_eq, beq_eq_false_iff_ne, ne_eq, Decidable.not_not, Int.not_le, Int.not_lt, Nat.not_le, Nat.not_lt] at hb1
    refine go mixed 2000 [2] 0 (St.mk Rg.no [kCd (bitL 5 21), KI.code [true, true]] [(2, vI 0)] []) (by kernel_rfl) (by kernel_rfl) (by kernel_rfl) ?_
    refine ret_ok (vs := [vI 0]) (by kernel_rfl) ?_
    intro L w1 hs
    exact ⟨retI (ht_no rfl (by assumption)).symm, hs.out0⟩
  intro hb1
  try simp only [decide_eq_true_eq, decide_eq_false_iff_not, Bool.not_eq_true', Bool.not_eq_false', Bool.and_eq_true, Bool.or_eq_true, Bool.and_eq_false_imp, bne_iff_ne, beq_iff_eq, bne_eq_false_iff_eq, beq_eq_false_iff_ne, ne_eq, Decidable.not_not, Int.not_le, Int.not_lt, Nat.not_le, Nat.not_lt] at hb1
  refine go mixed 2000 [1, 3, 4] 1 (St.mk Rg.no [kLp (bitL 7 119), KI.block 0, kCd (bitL 4 15)] [(1, vR 0 0), (3, vI 1), (4, vI t.root)] [LB.mk [cS Atnodes t.nodes.length ctnodes, cI t.root] 29]) (by kernel_rfl) (by kernel_rfl) (by kernel_rfl) ?_
  have htr : treeOk t = true := by simp_all
  obtain ⟨x, hx⟩ := treeOk_R htr
  obtain ⟨K, hll, hxK, hK⟩ := chk_ll _ _ _ _ _ _ _ hx rfl (by decide)
  have hzz : zTr t = zRow zNd t.nodes := rfl
  have hz1 : zRow zNd t.nodes = t.nodes.length + (t.nodes.map zNd).sum := rfl
  refine loop_at (ι := Nat × Int × Int) (fun q => [(3, .one (.v (.int .i64 q.2.1))), (4, .one (.v (.int .i64 q.2.2)))]) (fun _ => []) (fun q => [oldA w]) (fun q => LL t.nodes q.1 q.2.2 ∧ q.2.1 + (q.1 : Int) = x.2 ∧ q.1 ≤ K ∧ 1 ≤ q.2.1) (fun q => q.1) (K, 1, t.root) rfl rfl rfl ⟨hll, by simp only; omega, Nat.le_refl _, by simp only; omega⟩ ?_
  rintro ⟨k, high, at_⟩ ⟨hl, hhi, hkK, h1h⟩ ih
  simp only at hl hhi hkK h1h ih ⊢
  cases k with
  | zero =>
    obtain ⟨n, h0, hn, nf_5⟩ := hl
    have hlt : at_.toNat < t.nodes.length := (List.getElem?_eq_some_iff.1 hn).1
    obtain rfl : t.nodes[at_.toNat] = n := by rw [List.getElem?_eq_getElem hlt] at hn; exact Option.some.inj hn
    refine go mixed 2000 [1, 3, 4, 11, 12] 1 (St.mk (Rg.sq (bitL 9 119) 3) [kCd (bitL 9 375), kCd (bitL 8 247), kLp (bitL 7 119), KI.block 0, kCd (bitL 4 15)] [(1, vR 0 0), (3, vI high), (4, vI at_), (11, vS Atnodes t.nodes.length ctnodes), (12, vI at_)] [LB.mk [cS Atnodes t.nodes.length ctnodes, cI t.root] 29]) (by kernel_rfl) (by kernel_rfl) (by kernel_rfl) ?_
    refine index_at 3 (by kernel_rfl : atP _ _ _ 3 false = some (Op.indexAddr 27 (tmpO 11) (tmpO 12), 0, some 13, Rg.sq (bitL 9 119) 4)) (ni := at_.toNat) (sz := 3) (by kernel_rfl) rfl rfl (by omega) (by assumption) (fun L w1 hs => rd_some (i := at_.toNat) (rdRow_ext (hs.old 0 rfl) hrtnodes) (by assumption)) ?_
    intro a_1 ha_1
    cases ha_1
    refine go mixed 2000 [1, 3, 4, 14] 1 (St.mk (Rg.sq (bitL 9 119) 5) [kCd (bitL 9 375), kCd (bitL 8 247), kLp (bitL 7 119), KI.block 0, kCd (bitL 4 15)] [(1, vR 0 0), (3, vI high), (4, vI at_), (14, vP ((a_1.add (at_.toNat * 3)).add 0))] [LB.mk [cS (some a_1) t.nodes.length ctnodes, cI t.root] 29]) (by kernel_rfl) (by kernel_rfl) (by kernel_rfl) ?_
    obtain ⟨Aentries_el1, centries_el1, Akids_el1, ckids_el1, hr1_el1, hr2_el1, hc_el1⟩ := Go.Proofs.Ytgleoebogikooaa.Dk.kNd_at (i := at_.toNat) hrtnodes (by assumption)
    refine load_one 5 (by kernel_rfl : atP _ _ _ 5 true = some (Op.load 4 (tmpO 14), 4, some 15, Rg.sq (bitL 9 119) 6)) (n := 1) (by kernel_rfl) rfl ?_
    intro L w1 hs
    refine ⟨.bo (t.nodes[at_.toNat].leaf), cell_at 0 (cellsH_ext (hs.old 0 rfl) hc_el1) rfl, ?_⟩
    clear hs
    refine go mixed 2000 [1, 3, 4, 16] 1 (St.mk Rg.no [kCd (bitL 9 375), kCd (bitL 8 247), kLp (bitL 7 119), KI.block 0, kCd (bitL 4 15)] [(1, vR 0 0), (3, vI high), (4, vI at_), (16, vB !t.nodes[at_.toNat].leaf)] [LB.mk [cS (some a_1) t.nodes.length ctnodes, cI t.root] 29]) (by kernel_rfl) (by kernel_rfl) (by kernel_rfl) ?_
    simp only [fl_ne_self, fl_eq_self, fl_eq0, fl_ne0, fl_gt0, fl_lt0, nf_5]
    refine go mixed 2000 [1, 3, 4, 16] 1 (St.mk Rg.no [kCd (bitL 9 375), kCd (bitL 8 247), kLp (bitL 7 119), KI.block 0, kCd (bitL 4 15)] [(1, vR 0 0), (3, vI high), (4, vI at_), (16, vB false)] [LB.mk [cS (some a_1) t.nodes.length ctnodes, cI t.root] 29]) (by kernel_rfl) (by kernel_rfl) (by kernel_rfl) ?_
    refine lit_at 16 (b := false) (by kernel_rfl) ?_
    refine go mixed 2000 [2] 0 (St.mk Rg.no [kCd (bitL 5 31)] [(2, vI high)] []) (by kernel_rfl) (by kernel_rfl) (by kernel_rfl) ?_
    refine ret_ok (vs := [vI high]) (by kernel_rfl) ?_
    intro L w1 hs
    exact ⟨retI ((ht_yes rfl htr hx).trans (by omega)).symm, hs.out0⟩
  | succ k =>
    obtain ⟨n, kid, h0, hn, nf_5, hkid, hl⟩ := hl
    have hlt : at_.toNat < t.nodes.length := (List.getElem?_eq_some_iff.1 hn).1
    obtain rfl : t.nodes[at_.toNat] = n := by rw [List.getElem?_eq_getElem hlt] at hn; exact Option.some.inj hn
    have hk0 : 0 < t.nodes[at_.toNat].kids.length := (List.getElem?_eq_some_iff.1 hkid).1
    obtain rfl : t.nodes[at_.toNat].kids[0] = kid := by rw [List.getElem?_eq_getElem hk0] at hkid; exact Option.some.inj hkid
    have nf_1 : IntKind.i64.wrap (high + 1) = high + 1 := by rw [IntKind.wrap_i64]; omega
    refine go mixed 2000 [1, 3, 4, 11, 12] 1 (St.mk (Rg.sq (bitL 9 119) 3) [kCd (bitL 9 375), kCd (bitL 8 247), kLp (bitL 7 119), KI.block 0, kCd (bitL 4 15)] [(1, vR 0 0), (3, vI high), (4, vI at_), (11, vS Atnodes t.nodes.length ctnodes), (12, vI at_)] [LB.mk [cS Atnodes t.nodes.length ctnodes, cI t.root] 29]) (by kernel_rfl) (by kernel_rfl) (by kernel_rfl) ?_
    refine index_at 3 (by kernel_rfl : atP _ _ _ 3 false = some (Op.indexAddr 27 (tmpO 11) (tmpO 12), 0, some 13, Rg.sq (bitL 9 119) 4)) (ni := at_.toNat) (sz := 3) (by kernel_rfl) rfl rfl (by omega) (by assumption) (fun L w1 hs => rd_some (i := at_.toNat) (rdRow_ext (hs.old 0 rfl) hrtnodes) (by assumption)) ?_
    intro a_1 ha_1
    cases ha_1
    refine go mixed 2000 [1, 3, 4, 14] 1 (St.mk (Rg.sq (bitL 9 119) 5) [kCd (bitL 9 375), kCd (bitL 8 247), kLp (bitL 7 119), KI.block 0, kCd (bitL 4 15)] [(1, vR 0 0), (3, vI high), (4, vI at_), (14, vP ((a_1.add (at_.toNat * 3)).add 0))] [LB.mk [cS (some a_1) t.nodes.length ctnodes, cI t.root] 29]) (by kernel_rfl) (by kernel_rfl) (by kernel_rfl) ?_
    obtain ⟨Aentries_el1, centries_el1, Akids_el1, ckids_el1, hr1_el1, hr2_el1, hc_el1⟩ := Go.Proofs.Ytgleoebogikooaa.Dk.kNd_at (i := at_.toNat) hrtnodes (by assumption)
    refine load_one 5 (by kernel_rfl : atP _ _ _ 5 true = some (Op.load 4 (tmpO 14), 4, some 15, Rg.sq (bitL 9 119) 6)) (n := 1) (by kernel_rfl) rfl ?_
    intro L w1 hs
    refine ⟨.bo (t.nodes[at_.toNat].leaf), cell_at 0 (cellsH_ext (hs.old 0 rfl) hc_el1) rfl, ?_⟩
    clear hs
    refine go mixed 2000 [1, 3, 4, 16] 1 (St.mk Rg.no [kCd (bitL 9 375), kCd (bitL 8 247), kLp (bitL 7 119), KI.block 0, kCd (bitL 4 15)] [(1, vR 0 0), (3, vI high), (4, vI at_), (16, vB !t.nodes[at_.toNat].leaf)] [LB.mk [cS (some a_1) t.nodes.length ctnodes, cI t.root] 29]) (by kernel_rfl) (by kernel_rfl) (by kernel_rfl) ?_
    simp only [fl_ne_self, fl_eq_self, fl_eq0, fl_ne0, fl_gt0, fl_lt0, nf_5, nf_1]
    refine go mixed 2000 [1, 3, 4, 16] 1 (St.mk Rg.no [kCd (bitL 9 375), kCd (bitL 8 247), kLp (bitL 7 119), KI.block 0, kCd (bitL 4 15)] [(1, vR 0 0), (3, vI high), (4, vI at_), (16, vB true)] [LB.mk [cS (some a_1) t.nodes.length ctnodes, cI t.root] 29]) (by kernel_rfl) (by kernel_rfl) (by kernel_rfl) ?_
    refine lit_at 16 (b := true) (by kernel_rfl) ?_
    refine go mixed 2000 [1, 3, 18, 19] 1 (St.mk (Rg.sq (bitL 9 503) 3) [kLp (bitL 7 119), KI.block 0, kCd (bitL 4 15)] [(1, vR 0 0), (3, vI (IntKind.i64.wrap (high + 1))), (18, vS (some a_1) t.nodes.length ctnodes), (19, vI at_)] [LB.mk [cS (some a_1) t.nodes.length ctnodes, cI t.root] 29]) (by kernel_rfl) (by kernel_rfl) (by kernel_rfl) ?_
    simp only [fl_ne_self, fl_eq_self, fl_eq0, fl_ne0, fl_gt0, fl_lt0, nf_5, nf_1]
    refine index_at 3 (by kernel_rfl : atP _ _ _ 3 false = some (Op.indexAddr 27 (tmpO 18) (tmpO 19), 0, some 20, Rg.sq (bitL 9 503) 4)) (ni := at_.toNat) (sz := 3) (by kernel_rfl) rfl rfl (by omega) (by assumption) (fun L w1 hs => rd_some (i := at_.toNat) (rdRow_ext (hs.old 0 rfl) hrtnodes) (by assumption)) ?_
    intro a_2 ha_2
    cases ha_2
    refine go mixed 2000 [1, 3, 21] 1 (St.mk (Rg.sq (bitL 9 503) 5) [kLp (bitL 7 119), KI.block 0, kCd (bitL 4 15)] [(1, vR 0 0), (3, vI (high + 1)), (21, vP ((a_1.add (at_.toNat * 3)).add 2))] [LB.mk [cS (some a_1) t.nodes.length ctnodes, cI t.root] 29]) (by kernel_rfl) (by kernel_rfl) (by kernel_rfl) ?_
    obtain ⟨Aentries_el2, centries_el2, Akids_el2, ckids_el2, hr1_el2, hr2_el2, hc_el2⟩ := Go.Proofs.Ytgleoebogikooaa.Dk.kNd_at (i := at_.toNat) hrtnodes (by assumption)
    refine load_one 5 (by kernel_rfl : atP _ _ _ 5 true = some (Op.load 44 (tmpO 21), 44, some 22, Rg.sq (bitL 9 503) 6)) (n := 1) (by kernel_rfl) rfl ?_
    intro L w1 hs
    refine ⟨.v (Value.slice Akids_el2 t.nodes[at_.toNat].kids.length ckids_el2), cell_at 2 (cellsH_ext (hs.old 0 rfl) hc_el2) rfl, ?_⟩
    clear hs
    refine go mixed 2000 [1, 3, 22] 1 (St.mk (Rg.sq (bitL 9 503) 6) [kLp (bitL 7 119), KI.block 0, kCd (bitL 4 15)] [(1, vR 0 0), (3, vI (high + 1)), (22, vS Akids_el2 t.nodes[at_.toNat].kids.length ckids_el2)] [LB.mk [cS (some a_1) t.nodes.length ctnodes, cI t.root] 29]) (by kernel_rfl) (by kernel_rfl) (by kernel_rfl) ?_
    refine index_at 6 (by kernel_rfl : atP _ _ _ 6 false = some (Op.indexAddr 44 (tmpO 22) (Operand.const (Value.int IntKind.i64 0)), 0, some 23, Rg.sq (bitL 9 503) 7)) (ni := 0) (sz := 1) (by kernel_rfl) rfl rfl rfl (by assumption) (fun L w1 hs => rd_some (i := 0) (rdRow_ext (hs.old 0 rfl) hr2_el2) (by assumption)) ?_
    intro a_2 ha_2
    cases ha_2
    refine go mixed 2000 [1, 3, 23] 1 (St.mk (Rg.sq (bitL 9 503) 7) [kLp (bitL 7 119), KI.block 0, kCd (bitL 4 15)] [(1, vR 0 0), (3, vI (high + 1)), (23, vP (a_2.add 0))] [LB.mk [cS (some a_1) t.nodes.length ctnodes, cI t.root] 29]) (by kernel_rfl) (by kernel_rfl) (by kernel_rfl) ?_
    refine load_one 7 (by kernel_rfl : atP _ _ _ 7 true = some (Op.load 3 (tmpO 23), 3, some 24, Rg.sq (bitL 9 503) 8)) (n := 1) (by kernel_rfl) rfl ?_
    intro L w1 hs
    refine ⟨.v (.int .i64 t.nodes[at_.toNat].kids[0]), rd_sc (rdRow_ext (hs.old 0 rfl) hr2_el2) hk0, ?_⟩
    clear hs
    refine go mixed 2000 [1, 3, 4] 1 (St.mk Rg.no [kLp (bitL 7 119), KI.block 0, kCd (bitL 4 15)] [(1, vR 0 0), (3, vI (high + 1)), (4, vI t.nodes[at_.toNat].kids[0])] [LB.mk [cS (some a_1) t.nodes.length ctnodes, cI t.root] 29]) (by kernel_rfl) (by kernel_rfl) (by kernel_rfl) ?_
    exact ih (k, high + 1, t.nodes[at_.toNat].kids[0]) ⟨hl, by simp only; omega, by simp only; omega, by simp only; omega⟩ (by simp only; omega)

theorem lawTreeHeight_ok (t : Tr) (cst : List Value) (w : World) (ht : kTr.rd w.heap t cst) (hw : wTr t) (hby : byTr t) :
    Calls Try.prog 4 #[.agg cst.toArray] w fun e w' => e = .returned (.bool true) ∧ Below w.heap.size w w' := by
  obtain ⟨Atnodes, ctnodes, rfl, hrtnodes⟩ := kTr_inv ht
  refine enter (args := [.agg [.v (.slice Atnodes t.nodes.length ctnodes), .v (.int .i64 t.root)]]) Try.func4 (c := bodyOf Try.f4) rfl rfl (start_LOK _) (start_old w) ?_
  refine go mixed 2000 [1, 7, 8] 1 (St.mk (Rg.sq (bitL 3 3) 2) [kCd (bitL 3 7)] [(1, vR 0 0), (7, SV.agg [cS Atnodes t.nodes.length ctnodes, cI t.root]), (8, vI 1048576)] [LB.mk [cS Atnodes t.nodes.length ctnodes, cI t.root] 24]) (by kernel_rfl) (by kernel_rfl) (by kernel_rfl) ?_
  refine call_at true (by kernel_rfl : atC _ _ _ true = some (12, [SV.agg [cS Atnodes t.nodes.length ctnodes, cI t.root], vI 1048576], some 9, Rg.sq (bitL 3 3) 3)) (by kernel_rfl) (fun L w1 hs => (Go.Proofs.Ytgleoebogikooaa.Dk.szTree_ok (t) ([Value.slice Atnodes t.nodes.length ctnodes, Value.int IntKind.i64 t.root]) (1048576) w1 (Go.Proofs.Ytgleoebogikooaa.Dk.kTr_mk (rdRow_ext (hs.old 0 rfl) hrtnodes)) (by omega) (by omega) (by assumption)).mono ?_)
  rintro e_ w2_ ⟨r_1, rfl, hf_, hq1⟩
  refine ⟨.one (.v (Value.int IntKind.i64 r_1)), _, _, rfl, fun _ => hf_.block, hs.below hf_, ?_⟩
  clear hs hf_
  refine go mixed 2000 [1, 11] 1 (St.mk Rg.no [kCd (bitL 5 23), kCd (bitL 4 15)] [(1, vR 0 0), (11, vB (decide (r_1 < 0)))] [LB.mk [cS Atnodes t.nodes.length ctnodes, cI t.root] 24]) (by kernel_rfl) (by kernel_rfl) (by kernel_rfl) ?_
  refine split_at 11 (b := decide (r_1 < 0)) (by kernel_rfl) (by kernel_rfl) ?_ ?_
  · intro hb1
    replace hb1 := of_decide_eq_true hb1
    refine go mixed 2000 [2] 0 (St.mk Rg.no [kCd (bitL 7 87), kCd (bitL 4 15)] [(2, vL true)] []) (by kernel_rfl) (by kernel_rfl) (by kernel_rfl) ?_
    refine ret_ok (vs := [vL true]) (by kernel_rfl) ?_
    intro L w1 hs
    exact ⟨rfl, hs.out0⟩
  · intro hb1
    replace hb1 := of_decide_eq_false hb1
    refine go mixed 2000 [1, 12] 1 (St.mk (Rg.sq (bitL 5 15) 1) [kCd (bitL 5 31)] [(1, vR 0 0), (12, SV.agg [cS Atnodes t.nodes.length ctnodes, cI t.root])] [LB.mk [cS Atnodes t.nodes.length ctnodes, cI t.root] 24]) (by kernel_rfl) (by kernel_rfl) (by kernel_rfl) ?_
    refine call_at true (by kernel_rfl : atC _ _ _ true = some (14, [SV.agg [cS Atnodes t.nodes.length ctnodes, cI t.root]], some 13, Rg.sq (bitL 5 15) 2)) (by kernel_rfl) (fun L w1 hs => (Go.Proofs.Ytgleoebogikooaa.Dk.toTree_ok (t) ([Value.slice Atnodes t.nodes.length ctnodes, Value.int IntKind.i64 t.root]) w1 (Go.Proofs.Ytgleoebogikooaa.Dk.kTr_mk (rdRow_ext (hs.old 0 rfl) hrtnodes)) (by omega)).mono ?_)
    rintro e_ w2_ ⟨Aonodes_1, conodes_1, rfl, hf_⟩
    refine ⟨.agg [.v (Value.slice Aonodes_1 t.nodes.length conodes_1), .v (Value.int IntKind.i64 t.root)], _, _, rfl, fun _ => hf_.1.block, hs.fresh hf_, ?_⟩
    clear hs hf_
    refine go mixed 2000 [1, 13] 1 (St.mk (Rg.sq (bitL 5 15) 2) [kCd (bitL 5 31)] [(1, vR 0 0), (13, SV.agg [cS Aonodes_1 t.nodes.length conodes_1, cI t.root])] [LB.mk [cS Atnodes t.nodes.length ctnodes, cI t.root] 24]) (by kernel_rfl) (by kernel_rfl) (by kernel_rfl) ?_
    refine call_pure true (by kernel_rfl : atC _ _ _ true = some (17, [SV.agg [cS Aonodes_1 t.nodes.length conodes_1, cI t.root]], some 14, Rg.sq (bitL 5 15) 3)) (by kernel_rfl) (.one (.v (Value.int IntKind.i64 (htT t)))) (fun L w1 hs => (Go.Proofs.Ytgleoebogikooaa.Dk.sTreeHeight_ok (t) ([Value.slice Aonodes_1 t.nodes.length conodes_1, Value.int IntKind.i64 t.root]) w1 (Go.Proofs.Ytgleoebogikooaa.Dk.kTr_mk (hs.rd 0 rfl)) (by omega) (by assumption))) ?_
    refine go mixed 2000 [1, 4, 15] 1 (St.mk (Rg.sq (bitL 6 31) 1) [kCd (bitL 6 63)] [(1, vR 0 0), (4, vI (htT t)), (15, SV.agg [cS Atnodes t.nodes.length ctnodes, cI t.root])] [LB.mk [cS Atnodes t.nodes.length ctnodes, cI t.root] 24]) (by kernel_rfl) (by kernel_rfl) (by kernel_rfl) ?_
    refine call_at true (by kernel_rfl : atC _ _ _ true = some (14, [SV.agg [cS Atnodes t.nodes.length ctnodes, cI t.root]], some 16, Rg.sq (bitL 6 31) 2)) (by kernel_rfl) (fun L w1 hs => (Go.Proofs.Ytgleoebogikooaa.Dk.toTree_ok (t) ([Value.slice Atnodes t.nodes.length ctnodes, Value.int IntKind.i64 t.root]) w1 (Go.Proofs.Ytgleoebogikooaa.Dk.kTr_mk (rdRow_ext (hs.old 1 rfl) hrtnodes)) (by omega)).mono ?_)
    rintro e_ w2_ ⟨Aonodes_2, conodes_2, rfl, hf_⟩
    refine ⟨.agg [.v (Value.slice Aonodes_2 t.nodes.length conodes_2), .v (Value.int IntKind.i64 t.root)], _, _, rfl, fun _ => hf_.1.block, hs.fresh hf_, ?_⟩
    clear hs hf_
    refine go mixed 2000 [1, 4, 5, 17] 2 (St.mk (Rg.sq (bitL 7 63) 1) [kCd (bitL 7 127)] [(1, vR 0 0), (4, vI (htT t)), (5, vR 1 0), (17, SV.agg [cS Aonodes_2 t.nodes.length conodes_2, cI t.root])] [LB.mk [cS Atnodes t.nodes.length ctnodes, cI t.root] 24, LB.mk [cS Aonodes_2 t.nodes.length conodes_2, cI t.root] 29]) (by kernel_rfl) (by kernel_rfl) (by kernel_rfl) ?_
    refine call_pure true (by kernel_rfl : atC _ _ _ true = some (18, [SV.agg [cS Aonodes_2 t.nodes.length conodes_2, cI t.root]], some 18, Rg.sq (bitL 7 63) 2)) (by kernel_rfl) (.one (.v (Value.int IntKind.i64 (htT t)))) (fun L w1 hs => (Go.Proofs.Ytgleoebogikooaa.Dk.iTreeHeight_ok (t) ([Value.slice Aonodes_2 t.nodes.length conodes_2, Value.int IntKind.i64 t.root]) w1 (Go.Proofs.Ytgleoebogikooaa.Dk.kTr_mk (hs.rd 0 rfl)) (by omega) (by assumption))) ?_
    refine go mixed 2000 [1, 5, 21] 2 (St.mk Rg.no [kCd (bitL 9 383), kCd (bitL 8 255)] [(1, vR 0 0), (5, vR 1 0), (21, vB (htT t != htT t))] [LB.mk [cS Atnodes t.nodes.length ctnodes, cI t.root] 24, LB.mk [cS Aonodes_2 t.nodes.length conodes_2, cI t.root] 29]) (by kernel_rfl) (by kernel_rfl) (by kernel_rfl) ?_
    refine split_at 21 (b := htT t != htT t) (by kernel_rfl) (by kernel_rfl) ?_ ?_
    · intro hb2
      replace hb2 := bne_iff_ne.1 hb2
      (exfalso; omega)
    · intro hb2
      replace hb2 := bne_eq_false_iff_eq.1 hb2
      refine go mixed 2000 [22, 23] 0 (St.mk (Rg.dr (bitL 10 255) (bitL 5 3) 3 2) [kCd (bitL 10 767), kCd (bitL 9 511)] [(22, SV.agg [cS Aonodes_2 t.nodes.length conodes_2, cI t.root]), (23, SV.agg [cS Atnodes t.nodes.length ctnodes, cI t.root])] []) (by kernel_rfl) (by kernel_rfl) (by kernel_rfl) ?_
      refine call_at true (by kernel_rfl : atC _ _ _ true = some (14, [SV.agg [cS Atnodes t.nodes.length ctnodes, cI t.root]], some 24, Rg.dr (bitL 10 255) (bitL 5 7) 2 10)) (by kernel_rfl) (fun L w1 hs => (Go.Proofs.Ytgleoebogikooaa.Dk.toTree_ok (t) ([Value.slice Atnodes t.nodes.length ctnodes, Value.int IntKind.i64 t.root]) w1 (Go.Proofs.Ytgleoebogikooaa.Dk.kTr_mk (rdRow_ext (hs.old 2 rfl) hrtnodes)) (by omega)).mono ?_)
      rintro e_ w2_ ⟨Aonodes_3, conodes_3, rfl, hf_⟩
      refine ⟨.agg [.v (Value.slice Aonodes_3 t.nodes.length conodes_3), .v (Value.int IntKind.i64 t.root)], _, _, rfl, fun _ => hf_.1.block, hs.fresh hf_, ?_⟩
      clear hs hf_
      refine go mixed 2000 [22, 24] 0 (St.mk (Rg.dr (bitL 10 255) (bitL 5 7) 2 10) [kCd (bitL 10 767), kCd (bitL 9 511)] [(22, SV.agg [cS Aonodes_2 t.nodes.length conodes_2, cI t.root]), (24, SV.agg [cS Aonodes_3 t.nodes.length conodes_3, cI t.root])] []) (by kernel_rfl) (by kernel_rfl) (by kernel_rfl) ?_
      refine call_pure true (by kernel_rfl : atC _ _ _ true = some (16, [SV.agg [cS Aonodes_2 t.nodes.length conodes_2, cI t.root], SV.agg [cS Aonodes_3 t.nodes.length conodes_3, cI t.root]], some 25, Rg.dr (bitL 10 255) (bitL 5 15) 1 10)) (by kernel_rfl) (.one (.bo (true))) (fun L w1 hs => (Go.Proofs.Ytgleoebogikooaa.Dk.eqTree_ok (t) ([Value.slice Aonodes_2 t.nodes.length conodes_2, Value.int IntKind.i64 t.root]) ([Value.slice Aonodes_3 t.nodes.length conodes_3, Value.int IntKind.i64 t.root]) w1 (Go.Proofs.Ytgleoebogikooaa.Dk.kTr_mk (hs.rd 1 rfl)) (Go.Proofs.Ytgleoebogikooaa.Dk.kTr_mk (hs.rd 0 rfl)) (by omega))) ?_
      refine go mixed 2000 [26] 0 (St.mk Rg.no [kCd (bitL 10 767), kCd (bitL 9 511)] [(26, vB false)] []) (by kernel_rfl) (by kernel_rfl) (by kernel_rfl) ?_
      refine lit_at 26 (b := false) (by kernel_rfl) ?_
      refine go mixed 2000 [2] 0 (St.mk Rg.no [kCd (bitL 10 1023)] [(2, vL true)] []) (by kernel_rfl) (by kernel_rfl) (by kernel_rfl) ?_
      refine ret_ok (vs := [vL true]) (by kernel_rfl) ?_
      intro L w1 hs
      exact ⟨rfl, (hs.erases [0, 0, 0]).out0⟩

end Go.Proofs.Ytgleoebogikooaa.Dk
