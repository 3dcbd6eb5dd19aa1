/- Walks of functions of the program: what each call returns and what it leaves in memory. Conditions: those that each theorem names. -/
import Derived.Test.YtgleoebogikooaaG1
import Derived.Test.YtgleoebogikooaaSxC
namespace Go.Proofs.Ytgleoebogikooaa.Dk
set_option linter.unusedVariables false
set_option linter.unusedSimpArgs false
open Go.Proofs.Ytgleoebogikooaa.Sx Go.Proofs Go.RowKit
set_option maxRecDepth 100000
set_option maxHeartbeats 1000000
def PtrOk (w0 : World) : Option Addr → Option En → Prop
  | none, none => True
  | some ad, some x => byOk x.key.t ∧ ∃ cs, kEn.rd w0.heap x cs ∧ ∀ j u, cs[j]? = some u → cellH w0.heap (ad.add j) = some u
  | _, _ => False
theorem chk_out {T : List Nd} {f : Nat} {s : CS} {at_ dp : Int} {lo hi : Option En} (h : ¬ (0 ≤ at_ ∧ at_ ≤ (T.length : Int) - 1)) : chk T (f + 1) s at_ dp lo hi = none := by
  unfold chk
  split
  · rfl
  · rename_i n hn
    have := (List.getElem?_eq_some_iff.1 hn).1
    rw [if_neg (by omega)]
theorem chk_no {T : List Nd} {f : Nat} {s : CS} {at_ dp : Int} {lo hi : Option En} (h0 : at_.toNat < T.length) (h : ¬ ((0 ≤ at_ ∧ at_ ∉ s.1) ∧ nodeOk T[at_.toNat] = true ∧ T[at_.toNat].entries.all (fun e => okLo lo e && okHi hi e) = true)) : chk T (f + 1) s at_ dp lo hi = none := by
  unfold chk
  rw [List.getElem?_eq_getElem h0]
  exact if_neg h
theorem chk_yes {T : List Nd} {f : Nat} {s : CS} {at_ dp : Int} {lo hi : Option En} (h0 : at_.toNat < T.length) (h : (0 ≤ at_ ∧ at_ ∉ s.1) ∧ nodeOk T[at_.toNat] = true ∧ T[at_.toNat].entries.all (fun e => okLo lo e && okHi hi e) = true) : chk T (f + 1) s at_ dp lo hi =
    if T[at_.toNat].leaf = true then (if (if s.2 = 0 then dp else s.2) = dp then some (s.1 ++ [at_], if s.2 = 0 then dp else s.2) else none)
    else kidsF (fun s k lo hi => chk T f s k (dp + 1) lo hi) T[at_.toNat] lo hi T[at_.toNat].kids 0 (s.1 ++ [at_], s.2) := by
  conv => lhs; unfold chk
  rw [List.getElem?_eq_getElem h0]
  exact if_pos h
theorem all_ok {n : Nd} {lo hi : Option En} {i : Nat} (h : n.entries.length ≤ i) (hI : ∀ (j : Nat) (h : j < n.entries.length), j < i → (okLo lo n.entries[j] && okHi hi n.entries[j]) = true) : n.entries.all (fun e => okLo lo e && okHi hi e) = true := by
  rw [List.all_eq_true]
  intro e he
  obtain ⟨j, hj, rfl⟩ := List.getElem_of_mem he
  exact hI j hj (by omega)
theorem ptr_el {w0 : World} {xs : List En} {a : Addr} {n c j : Nat} (hr : rdRow kEn w0.heap xs (.slice (some a) n c)) (hj : j < xs.length) (hb : byOk xs[j].key.t) : PtrOk w0 (some (a.add (j * 5))) (some xs[j]) := ⟨hb, rd_at hr (List.getElem?_eq_getElem hj)⟩
def ChkSaid (r : Option CS) (b : Bool) (s : CS) : Prop := match r with
  | some x => b = true ∧ s = x
  | none => b = false
theorem chk_leaf {T : List Nd} {f : Nat} {s : CS} {at_ dp : Int} {lo hi : Option En} {d : Int} {b : Bool} (h0 : at_.toNat < T.length) (h : (0 ≤ at_ ∧ at_ ∉ s.1) ∧ nodeOk T[at_.toNat] = true ∧ T[at_.toNat].entries.all (fun e => okLo lo e && okHi hi e) = true) (hl : T[at_.toNat].leaf = true)
    (hd : (if s.2 = 0 then dp else s.2) = d) (hb : (d == dp) = b) : ChkSaid (chk T (f + 1) s at_ dp lo hi) b (s.1 ++ [at_], d) := by
  rw [chk_yes h0 h, if_pos hl, hd, ← hb]
  by_cases hq : d = dp
  · rw [if_pos hq]; exact ⟨by simp [hq], rfl⟩
  · rw [if_neg hq]; show (d == dp) = false; simpa using hq
theorem chk_kids {T : List Nd} {f : Nat} {s : CS} {at_ dp : Int} {lo hi : Option En} {b : Bool} {s' : CS} (h0 : at_.toNat < T.length) (h : (0 ≤ at_ ∧ at_ ∉ s.1) ∧ nodeOk T[at_.toNat] = true ∧ T[at_.toNat].entries.all (fun e => okLo lo e && okHi hi e) = true) (hl : T[at_.toNat].leaf = false)
    (hk : ChkSaid (kidsF (fun s k lo hi => chk T f s k (dp + 1) lo hi) T[at_.toNat] lo hi T[at_.toNat].kids 0 (s.1 ++ [at_], s.2)) b s') : ChkSaid (chk T (f + 1) s at_ dp lo hi) b s' := by
  rw [chk_yes h0 h, if_neg (by rw [hl]; decide)]
  exact hk
theorem nodeOk_kids {n : Nd} (h : nodeOk n = true) (hl : n.leaf = false) : 0 < n.entries.length ∧ n.kids.length = n.entries.length + 1 := by
  unfold nodeOk at h
  rw [hl] at h
  simp only [Bool.and_eq_true, Bool.false_eq_true, if_false, decide_eq_true_eq] at h
  exact h.2
set_option maxHeartbeats 20000000 in
theorem check_ok (T : List Nd) (A0 : Option Addr) (c0 : Nat) (root : Int) (m : Nat) (w0 : World) (hT : rdRow kNd w0.heap T (.slice A0 T.length c0)) (hk : ∀ n ∈ T, ∀ e ∈ n.entries, byOk e.key.t) (hsz : T.length ≤ 1048576) (hsz2 : ∀ n ∈ T, n.entries.length ≤ 1048576 ∧ n.kids.length ≤ 1048576) :
    ∀ (f : Nat) (s : CS) (at_ dp : Int) (lo hi : Option En) (plo phi : Option Addr) (g : Nat) (S : Nat → Prop) (w : World)
      (h : sepL [blkA g [.slice A0 T.length c0, .int .i64 root, .map (some m), .int .i64 s.2] 89, mapA m s.1] w.heap S) (hS : ∀ b, S b → b < w.heap.size) (h0 : w0.heap.size ≤ w.heap.size) (hS0 : ∀ b, b < w0.heap.size → ¬ S b)
      (hag : ∀ b, b < w0.heap.size → w.heap[b]? = w0.heap[b]?) (hlo : PtrOk w0 plo lo) (hhi : PtrOk w0 phi hi) (hg : goodS T s.1) (hf : T.length < f + s.1.length) (hd : 0 ≤ dp ∧ dp + f ≤ 1000000),
      Calls Try.prog 56 #[.pointer (some ⟨g, 0, none⟩), .int .i64 at_, .int .i64 dp, .pointer plo, .pointer phi] w fun e w' => ∃ (b : Bool) (s' : CS), e = .returned (.bool b) ∧
        Mut w w' S [blkA g [.slice A0 T.length c0, .int .i64 root, .map (some m), .int .i64 s'.2] 89, mapA m s'.1] ∧ ChkSaid (chk T f s at_ dp lo hi) b s' := by
  intro f
  induction f with
  | zero => intro s _ _ _ _ _ _ _ _ _ _ _ _ _ _ _ _ hg hf _; have := goodS_len hg; omega
  | succ f ihf =>
    intro s at_ dp lo hi plo phi g S w h hS h0 hS0 hag hlo hhi hg hf hd
    have hgS : S g := by obtain ⟨S1, _, h1, _, _, ⟨hg, _⟩, _⟩ := h; exact h1 g hg
    have hst := start_ptr (cells := [.v (.slice A0 T.length c0), .v (.int .i64 root), .v (.map (some m)), .v (.int .i64 s.2)]) h hS rfl
    refine enter (L0 := [g]) (args := [.one (.ptr 0 0), .one (.v (.int .i64 at_)), .one (.v (.int .i64 dp)), .one (.v (.pointer plo)), .one (.v (.pointer phi))]) Try.func56 (c := bodyOf Try.f56) rfl rfl hst.1 hst.2 ?_
    clear hst h hS
    refine h_bring 1 rfl ?_
    refine h_see hS0 h0 hag ?_
    have nf_1 : IntKind.i64.wrap ((T.length : Int) - 1) = (T.length : Int) - 1 := by rw [IntKind.wrap_i64]; omega
    refine go mixed 2000 [0, 1, 2, 3, 4, 18, 25] 1 (St.mk (Rg.sq (bitL 3 1) 8) [kCd (bitL 3 5), KI.code [true, true]] [(0, vR 0 0), (1, vI at_), (2, vI dp), (3, SV.one (SC.v (Value.pointer plo))), (4, SV.one (SC.v (Value.pointer phi))), (18, vI at_), (25, vI (IntKind.i64.wrap ((↑T.length : Int) - 1)))] [LB.mk [cS A0 T.length c0, cI root, SC.v (Value.map (some m)), cI s.snd] 89]) (by kernel_rfl) (by kernel_rfl) (by kernel_rfl) ?_
    simp only [fl_ne_self, fl_eq_self, fl_eq0, fl_ne0, fl_gt0, fl_lt0, nf_1]
    refine call_pure true (by kernel_rfl : atC _ _ _ true = some (55, [vI at_, vI 0, vI ((↑T.length : Int) - 1)], some 26, Rg.sq (bitL 3 1) 9)) (by kernel_rfl) (.one (.bo (decide (0 ≤ at_) && decide (at_ ≤ (↑T.length : Int) - 1)))) (fun L w1 hs => (Go.Proofs.Ytgleoebogikooaa.Dk.within_ok (at_) (0) ((↑T.length : Int) - 1) w1)) ?_
    refine go mixed 2000 [0, 1, 2, 3, 4, 28] 1 (St.mk (Rg.sq (bitL 3 1) 11) [kCd (bitL 3 5), KI.code [true, true]] [(0, vR 0 0), (1, vI at_), (2, vI dp), (3, SV.one (SC.v (Value.pointer plo))), (4, SV.one (SC.v (Value.pointer phi))), (28, vB !(decide (0 ≤ at_) && decide (at_ ≤ (↑T.length : Int) - 1)))] [LB.mk [cS A0 T.length c0, cI root, SC.v (Value.map (some m)), cI s.snd] 89]) (by kernel_rfl) (by kernel_rfl) (by kernel_rfl) ?_
    refine split_at 28 (b := !(decide (0 ≤ at_) && decide (at_ ≤ (↑T.length : Int) - 1))) (by kernel_rfl) (by kernel_rfl) ?_ ?_
    · intro hb1
      try simp only [decide_eq_true_eq, decide_eq_false_iff_not, Bool.not_eq_true', Bool.not_eq_false', Bool.and_eq_true, Bool.or_eq_true, Bool.and_eq_false_imp, bne_iff_ne, beq_iff_eq, bne_eq_false_iff_eq, beq_eq_false_iff_ne, ne_eq, Decidable.not_not, Int.not_le, Int.not_lt, Nat.not_le, Nat.not_lt] at hb1
      refine go mixed 2000 [10] 1 (St.mk Rg.no [kCd (bitL 5 21), KI.code [true, true]] [(10, vL false)] [LB.mk [cS A0 T.length c0, cI root, SC.v (Value.map (some m)), cI s.snd] 89]) (by kernel_rfl) (by kernel_rfl) (by kernel_rfl) ?_
      refine ret_ok (vs := [vL false]) (by kernel_rfl) ?_
      intro L w1 hs
      exact ⟨false, s, rfl, fin_ptr hs hag rfl rfl hgS, by rw [chk_out (by omega)]; rfl⟩
    intro hb1
    try simp only [decide_eq_true_eq, decide_eq_false_iff_not, Bool.not_eq_true', Bool.not_eq_false', Bool.and_eq_true, Bool.or_eq_true, Bool.and_eq_false_imp, bne_iff_ne, beq_iff_eq, bne_eq_false_iff_eq, beq_eq_false_iff_ne, ne_eq, Decidable.not_not, Int.not_le, Int.not_lt, Nat.not_le, Nat.not_lt] at hb1
    refine go mixed 2000 [0, 1, 2, 3, 4, 28, 32, 33] 1 (St.mk (Rg.sq (bitL 3 1) 16) [kCd (bitL 3 5), KI.code [true, true]] [(0, vR 0 0), (1, vI at_), (2, vI dp), (3, SV.one (SC.v (Value.pointer plo))), (4, SV.one (SC.v (Value.pointer phi))), (28, vL false), (32, SV.one (SC.v (Value.map (some m)))), (33, vI at_)] [LB.mk [cS A0 T.length c0, cI root, SC.v (Value.map (some m)), cI s.snd] 89]) (by kernel_rfl) (by kernel_rfl) (by kernel_rfl) ?_
    have hin : 0 ≤ at_ ∧ at_ ≤ (T.length : Int) - 1 := by omega
    have hlt : at_.toNat < T.length := by omega
    obtain ⟨n, hn⟩ : ∃ n, n = T[at_.toNat] := ⟨_, rfl⟩
    have hnm : n ∈ T := by rw [hn]; exact List.getElem_mem _
    refine lookup_at 2 (by kernel_rfl : atB _ _ _ true = some (Op.lookup 87 (tmpO 32) (tmpO 33) false, 4, some 34, Rg.sq (bitL 3 1) 17)) (by kernel_rfl) rfl rfl rfl ?_
    have sd_1 : ∀ (j : Nat) (h : j < T.length), ∀ e ∈ T[j].entries, byOk e.key.t := fun j h => hk _ (List.getElem_mem h)
    have sd_2 : ∀ (j : Nat) (h : j < T.length), T[j].entries.length ≤ 1048576 := fun j h => (hsz2 _ (List.getElem_mem h)).1
    refine go mixed 2000 [0, 1, 2, 3, 4, 36] 1 (St.mk (Rg.sq (bitL 3 1) 19) [kCd (bitL 3 5), KI.code [true, true]] [(0, vR 0 0), (1, vI at_), (2, vI dp), (3, SV.one (SC.v (Value.pointer plo))), (4, SV.one (SC.v (Value.pointer phi))), (36, vB (decide (at_ ∈ s.fst)))] [LB.mk [cS A0 T.length c0, cI root, SC.v (Value.map (some m)), cI s.snd] 89]) (by kernel_rfl) (by kernel_rfl) (by kernel_rfl) ?_
    refine split_at 36 (b := decide (at_ ∈ s.fst)) (by kernel_rfl) (by kernel_rfl) ?_ ?_
    · intro hb2
      replace hb2 := of_decide_eq_true hb2
      refine go mixed 2000 [10] 1 (St.mk Rg.no [kCd (bitL 5 21), KI.code [true, true]] [(10, vL false)] [LB.mk [cS A0 T.length c0, cI root, SC.v (Value.map (some m)), cI s.snd] 89]) (by kernel_rfl) (by kernel_rfl) (by kernel_rfl) ?_
      refine ret_ok (vs := [vL false]) (by kernel_rfl) ?_
      intro L w1 hs
      exact ⟨false, s, rfl, fin_ptr hs hag rfl rfl hgS, by rw [chk_no hlt (by simp_all)]; rfl⟩
    intro hb2
    replace hb2 := of_decide_eq_false hb2
    refine go mixed 2000 [0, 1, 2, 3, 4, 36, 41, 42] 1 (St.mk (Rg.sq (bitL 3 1) 25) [kCd (bitL 3 5), KI.code [true, true]] [(0, vR 0 0), (1, vI at_), (2, vI dp), (3, SV.one (SC.v (Value.pointer plo))), (4, SV.one (SC.v (Value.pointer phi))), (36, vL false), (41, vS A0 T.length c0), (42, vI at_)] [LB.mk [cS A0 T.length c0, cI root, SC.v (Value.map (some m)), cI s.snd] 89]) (by kernel_rfl) (by kernel_rfl) (by kernel_rfl) ?_
    refine index_at 25 (by kernel_rfl : atP _ _ _ 25 false = some (Op.indexAddr 27 (tmpO 41) (tmpO 42), 0, some 43, Rg.sq (bitL 3 1) 26)) (ni := at_.toNat) (sz := 3) (by kernel_rfl) rfl rfl (by omega) (by assumption) (fun L w1 hs => rd_some (i := at_.toNat) (rdRow_ext (hs.old 0 rfl) hT) (by assumption)) ?_
    intro a_1 ha_1
    cases ha_1
    refine go mixed 2000 [0, 1, 2, 3, 4, 36, 43] 1 (St.mk (Rg.sq (bitL 3 1) 26) [kCd (bitL 3 5), KI.code [true, true]] [(0, vR 0 0), (1, vI at_), (2, vI dp), (3, SV.one (SC.v (Value.pointer plo))), (4, SV.one (SC.v (Value.pointer phi))), (36, vL false), (43, vP (a_1.add (at_.toNat * 3)))] [LB.mk [cS (some a_1) T.length c0, cI root, SC.v (Value.map (some m)), cI s.snd] 89]) (by kernel_rfl) (by kernel_rfl) (by kernel_rfl) ?_
    obtain ⟨Aentries_el1, centries_el1, Akids_el1, ckids_el1, hr1_el1, hr2_el1, hc_el1⟩ := Go.Proofs.Ytgleoebogikooaa.Dk.kNd_at (i := at_.toNat) hT (by assumption)
    refine load_agg 26 (by kernel_rfl : atP _ _ _ 26 true = some (Op.load 96 (tmpO 43), 96, some 44, Rg.sq (bitL 3 1) 27)) (n := 3) (by kernel_rfl) rfl ?_
    intro L w1 hs
    refine ⟨[.bo (T[at_.toNat].leaf), .v (Value.slice Aentries_el1 T[at_.toNat].entries.length centries_el1), .v (Value.slice Akids_el1 T[at_.toNat].kids.length ckids_el1)], rfl, cells_at0 (cellsH_ext (hs.old 0 rfl) hc_el1) rfl, ?_⟩
    clear hs
    refine go mixed 2000 [0, 1, 2, 3, 4, 36, 44] 1 (St.mk (Rg.sq (bitL 3 1) 27) [kCd (bitL 3 5), KI.code [true, true]] [(0, vR 0 0), (1, vI at_), (2, vI dp), (3, SV.one (SC.v (Value.pointer plo))), (4, SV.one (SC.v (Value.pointer phi))), (36, vL false), (44, SV.agg [SC.bo T[at_.toNat].leaf, cS Aentries_el1 T[at_.toNat].entries.length centries_el1, cS Akids_el1 T[at_.toNat].kids.length ckids_el1])] [LB.mk [cS (some a_1) T.length c0, cI root, SC.v (Value.map (some m)), cI s.snd] 89]) (by kernel_rfl) (by kernel_rfl) (by kernel_rfl) ?_
    refine call_pure true (by kernel_rfl : atC _ _ _ true = some (99, [SV.agg [SC.bo T[at_.toNat].leaf, cS Aentries_el1 T[at_.toNat].entries.length centries_el1, cS Akids_el1 T[at_.toNat].kids.length ckids_el1]], some 45, Rg.sq (bitL 3 1) 28)) (by kernel_rfl) (.one (.bo (nodeOk T[at_.toNat]))) (fun L w1 hs => (Go.Proofs.Ytgleoebogikooaa.Dk.iIsNode_ok (T[at_.toNat]) ([Value.bool T[at_.toNat].leaf, Value.slice Aentries_el1 T[at_.toNat].entries.length centries_el1, Value.slice Akids_el1 T[at_.toNat].kids.length ckids_el1]) w1 (Go.Proofs.Ytgleoebogikooaa.Dk.kNd_mk (rdRow_ext (hs.old 0 rfl) hr1_el1) (rdRow_ext (hs.old 0 rfl) hr2_el1)) (by exact sd_1 _ _) (by exact sd_2 _ _))) ?_
    refine go mixed 2000 [0, 1, 2, 3, 4, 47] 1 (St.mk Rg.no [kCd (bitL 3 5), KI.code [true, true]] [(0, vR 0 0), (1, vI at_), (2, vI dp), (3, SV.one (SC.v (Value.pointer plo))), (4, SV.one (SC.v (Value.pointer phi))), (47, vB !nodeOk T[at_.toNat])] [LB.mk [cS (some a_1) T.length c0, cI root, SC.v (Value.map (some m)), cI s.snd] 89]) (by kernel_rfl) (by kernel_rfl) (by kernel_rfl) ?_
    refine split_at 47 (b := !nodeOk T[at_.toNat]) (by kernel_rfl) (by kernel_rfl) ?_ ?_
    · intro hb3
      try simp only [decide_eq_true_eq, decide_eq_false_iff_not, Bool.not_eq_true', Bool.not_eq_false', Bool.and_eq_true, Bool.or_eq_true, Bool.and_eq_false_imp, bne_iff_ne, beq_iff_eq, bne_eq_false_iff_eq, beq_eq_false_iff_ne, ne_eq, Decidable.not_not, Int.not_le, Int.not_lt, Nat.not_le, Nat.not_lt] at hb3
      refine go mixed 2000 [10] 1 (St.mk Rg.no [kCd (bitL 5 21), KI.code [true, true]] [(10, vL false)] [LB.mk [cS (some a_1) T.length c0, cI root, SC.v (Value.map (some m)), cI s.snd] 89]) (by kernel_rfl) (by kernel_rfl) (by kernel_rfl) ?_
      refine ret_ok (vs := [vL false]) (by kernel_rfl) ?_
      intro L w1 hs
      exact ⟨false, s, rfl, fin_ptr hs hag rfl rfl hgS, by rw [chk_no hlt (by simp_all)]; rfl⟩
    intro hb3
    try simp only [decide_eq_true_eq, decide_eq_false_iff_not, Bool.not_eq_true', Bool.not_eq_false', Bool.and_eq_true, Bool.or_eq_true, Bool.and_eq_false_imp, bne_iff_ne, beq_iff_eq, bne_eq_false_iff_eq, beq_eq_false_iff_ne, ne_eq, Decidable.not_not, Int.not_le, Int.not_lt, Nat.not_le, Nat.not_lt] at hb3
    refine go mixed 2000 [0, 1, 2, 3, 4, 51, 52] 1 (St.mk (Rg.sq (bitL 3 3) 5) [kCd (bitL 3 7)] [(0, vR 0 0), (1, vI at_), (2, vI dp), (3, SV.one (SC.v (Value.pointer plo))), (4, SV.one (SC.v (Value.pointer phi))), (51, SV.one (SC.v (Value.map (some m)))), (52, vI at_)] [LB.mk [cS (some a_1) T.length c0, cI root, SC.v (Value.map (some m)), cI s.snd] 89]) (by kernel_rfl) (by kernel_rfl) (by kernel_rfl) ?_
    have hns : at_ ∉ s.1 := by assumption
    have hno : nodeOk (T[at_.toNat]'hlt) = true := by simp_all
    refine h_bring 2 rfl ?_
    refine update_at (by kernel_rfl : atB _ _ _ false = some (Op.mapUpdate 87 (tmpO 51) (tmpO 52) (Operand.const (Value.bool true)), 0, none, Rg.sq (bitL 3 3) 6)) (by kernel_rfl) rfl rfl rfl hns ?_
    refine h_bring 1 rfl ?_
    refine h_bring 2 rfl ?_
    refine h_bring 1 rfl ?_
    refine go mixed 2000 [0, 2, 3, 4, 57, 58] 1 (St.mk (Rg.sq (bitL 4 7) 6) [kCd (bitL 4 15)] [(0, vR 0 0), (2, vI dp), (3, SV.one (SC.v (Value.pointer plo))), (4, SV.one (SC.v (Value.pointer phi))), (57, vS (some a_1) T.length c0), (58, vI at_)] [LB.mk [cS (some a_1) T.length c0, cI root, SC.v (Value.map (some m)), cI s.snd] 89]) (by kernel_rfl) (by kernel_rfl) (by kernel_rfl) ?_
    refine index_at 6 (by kernel_rfl : atP _ _ _ 6 false = some (Op.indexAddr 27 (tmpO 57) (tmpO 58), 0, some 59, Rg.sq (bitL 4 7) 7)) (ni := at_.toNat) (sz := 3) (by kernel_rfl) rfl rfl (by omega) (by assumption) (fun L w1 hs => rd_some (i := at_.toNat) (rdRow_ext (hs.old 0 rfl) hT) (by assumption)) ?_
    intro a_2 ha_2
    cases ha_2
    refine go mixed 2000 [0, 2, 3, 4, 59] 1 (St.mk (Rg.sq (bitL 4 7) 7) [kCd (bitL 4 15)] [(0, vR 0 0), (2, vI dp), (3, SV.one (SC.v (Value.pointer plo))), (4, SV.one (SC.v (Value.pointer phi))), (59, vP (a_1.add (at_.toNat * 3)))] [LB.mk [cS (some a_1) T.length c0, cI root, SC.v (Value.map (some m)), cI s.snd] 89]) (by kernel_rfl) (by kernel_rfl) (by kernel_rfl) ?_
    obtain ⟨Aentries_el2, centries_el2, Akids_el2, ckids_el2, hr1_el2, hr2_el2, hc_el2⟩ := Go.Proofs.Ytgleoebogikooaa.Dk.kNd_at (i := at_.toNat) hT (by assumption)
    refine load_agg 7 (by kernel_rfl : atP _ _ _ 7 true = some (Op.load 96 (tmpO 59), 96, some 60, Rg.sq (bitL 4 7) 8)) (n := 3) (by kernel_rfl) rfl ?_
    intro L w1 hs
    refine ⟨[.bo (T[at_.toNat].leaf), .v (Value.slice Aentries_el2 T[at_.toNat].entries.length centries_el2), .v (Value.slice Akids_el2 T[at_.toNat].kids.length ckids_el2)], rfl, cells_at0 (cellsH_ext (hs.old 0 rfl) hc_el2) rfl, ?_⟩
    clear hs
    refine go mixed 2000 [0, 2, 3, 4, 11, 62, 63, 64] 2 (St.mk Rg.no [kLp (bitL 8 239), KI.block 0, kCd (bitL 5 31)] [(0, vR 0 0), (2, vI dp), (3, SV.one (SC.v (Value.pointer plo))), (4, SV.one (SC.v (Value.pointer phi))), (11, vR 1 0), (62, vS Aentries_el2 T[at_.toNat].entries.length centries_el2), (63, vI (↑T[at_.toNat].entries.length : Int)), (64, vI 0)] [LB.mk [cS (some a_1) T.length c0, cI root, SC.v (Value.map (some m)), cI s.snd] 89, LB.mk [SC.bo T[at_.toNat].leaf, cS Aentries_el2 T[at_.toNat].entries.length centries_el2, cS Akids_el2 T[at_.toNat].kids.length ckids_el2] 96]) (by kernel_rfl) (by kernel_rfl) (by kernel_rfl) ?_
    have sd_3 : ∀ (j : Nat) (h : j < T[at_.toNat].entries.length), byOk T[at_.toNat].entries[j].key.t := fun j h => hk _ (List.getElem_mem hlt) _ (List.getElem_mem h)
    have hel := (hsz2 _ (List.getElem_mem hlt)).1
    refine loop_at (ι := Nat) (fun i => [(64, .one (.v (.int .i64 i)))]) (fun _ => []) (fun i => [oldA w0, oldX w (fun b => S b ∨ b < w0.heap.size), mapA m (s.1 ++ [at_])]) (fun i => i ≤ T[at_.toNat].entries.length ∧ ∀ (j : Nat) (h : j < T[at_.toNat].entries.length), j < i → (okLo lo T[at_.toNat].entries[j] && okHi hi T[at_.toNat].entries[j]) = true) (fun i => T[at_.toNat].entries.length - i) 0 rfl rfl rfl ⟨Nat.zero_le _, fun j h hj => by omega⟩ ?_
    intro i hI ih
    rcases Nat.lt_or_ge i T[at_.toNat].entries.length with hlt2 | hge2
    · rcases plo with _ | alo <;> rcases lo with _ | xlo
      · rcases phi with _ | ahi <;> rcases hi with _ | xhi
        · refine go mixed 2000 [0, 2, 3, 4, 11, 62, 63, 64, 65] 2 (St.mk Rg.no [kCd (bitL 10 495), kCd (bitL 10 1007), kLp (bitL 8 239), KI.block 0, kCd (bitL 5 31)] [(0, vR 0 0), (2, vI dp), (3, SV.one (SC.v (Value.pointer none))), (4, SV.one (SC.v (Value.pointer none))), (11, vR 1 0), (62, vS Aentries_el2 T[at_.toNat].entries.length centries_el2), (63, vI (↑T[at_.toNat].entries.length : Int)), (64, vI (↑i : Int)), (65, vB (decide ((↑i : Int) < (↑T[at_.toNat].entries.length : Int))))] [LB.mk [cS (some a_1) T.length c0, cI root, SC.v (Value.map (some m)), cI s.snd] 89, LB.mk [SC.bo T[at_.toNat].leaf, cS Aentries_el2 T[at_.toNat].entries.length centries_el2, cS Akids_el2 T[at_.toNat].kids.length ckids_el2] 96]) (by kernel_rfl) (by kernel_rfl) (by kernel_rfl) ?_
          refine split_at 65 (b := decide ((↑i : Int) < (↑T[at_.toNat].entries.length : Int))) (by kernel_rfl) (by kernel_rfl) ?_ ?_
          · intro hb4
            replace hb4 := of_decide_eq_true hb4
            refine go mixed 2000 [0, 2, 3, 4, 11, 62, 63, 64] 2 (St.mk (Rg.sq (bitL 13 3055) 0) [kCd (bitL 13 7151), KI.block 1, kCd (bitL 11 2031), kLp (bitL 8 239), KI.block 0, kCd (bitL 5 31)] [(0, vR 0 0), (2, vI dp), (3, SV.one (SC.v (Value.pointer none))), (4, SV.one (SC.v (Value.pointer none))), (11, vR 1 0), (62, vS Aentries_el2 T[at_.toNat].entries.length centries_el2), (63, vI (↑T[at_.toNat].entries.length : Int)), (64, vI (↑i : Int))] [LB.mk [cS (some a_1) T.length c0, cI root, SC.v (Value.map (some m)), cI s.snd] 89, LB.mk [SC.bo T[at_.toNat].leaf, cS Aentries_el2 T[at_.toNat].entries.length centries_el2, cS Akids_el2 T[at_.toNat].kids.length ckids_el2] 96]) (by kernel_rfl) (by kernel_rfl) (by kernel_rfl) ?_
            refine index_at 0 (by kernel_rfl : atP _ _ _ 0 false = some (Op.indexAddr 34 (tmpO 62) (tmpO 64), 0, some 66, Rg.sq (bitL 13 3055) 1)) (ni := i) (sz := 5) (by kernel_rfl) rfl rfl rfl (by assumption) (fun L w1 hs => rd_some (i := i) (rdRow_ext (hs.old 0 rfl) hr1_el2) (by assumption)) ?_
            intro a_2 ha_2
            cases ha_2
            refine go mixed 2000 [0, 2, 3, 4, 11, 62, 63, 64, 66] 2 (St.mk (Rg.sq (bitL 13 3055) 1) [kCd (bitL 13 7151), KI.block 1, kCd (bitL 11 2031), kLp (bitL 8 239), KI.block 0, kCd (bitL 5 31)] [(0, vR 0 0), (2, vI dp), (3, SV.one (SC.v (Value.pointer none))), (4, SV.one (SC.v (Value.pointer none))), (11, vR 1 0), (62, vS (some a_2) T[at_.toNat].entries.length centries_el2), (63, vI (↑T[at_.toNat].entries.length : Int)), (64, vI (↑i : Int)), (66, vP (a_2.add (i * 5)))] [LB.mk [cS (some a_1) T.length c0, cI root, SC.v (Value.map (some m)), cI s.snd] 89, LB.mk [SC.bo T[at_.toNat].leaf, cS (some a_2) T[at_.toNat].entries.length centries_el2, cS Akids_el2 T[at_.toNat].kids.length ckids_el2] 96]) (by kernel_rfl) (by kernel_rfl) (by kernel_rfl) ?_
            obtain ⟨bkey_f_el3, Akey_t_el3, ckey_t_el3, hr1_el3, hr2_el3, hr3_el3, hc_el3⟩ := Go.Proofs.Ytgleoebogikooaa.Dk.kEn_at (i := i) hr1_el2 (by assumption)
            refine load_agg 1 (by kernel_rfl : atP _ _ _ 1 true = some (Op.load 101 (tmpO 66), 101, some 67, Rg.sq (bitL 13 3055) 2)) (n := 5) (by kernel_rfl) rfl ?_
            intro L w1 hs
            refine ⟨[.v (Value.int IntKind.i64 T[at_.toNat].entries[i].key.kind), .v (Value.int IntKind.i64 T[at_.toNat].entries[i].key.n), .v (Value.float FloatKind.f64 bkey_f_el3), .v (Value.slice Akey_t_el3 T[at_.toNat].entries[i].key.t.length ckey_t_el3), .v (Value.int IntKind.i64 T[at_.toNat].entries[i].id)], rfl, cells_at0 (cellsH_ext (hs.old 0 rfl) hc_el3) rfl, ?_⟩
            clear hs
            refine go mixed 2000 [0, 2, 3, 4, 11, 62, 63, 64] 2 (St.mk Rg.no [kLp (bitL 8 239), KI.block 0, kCd (bitL 5 31)] [(0, vR 0 0), (2, vI dp), (3, SV.one (SC.v (Value.pointer none))), (4, SV.one (SC.v (Value.pointer none))), (11, vR 1 0), (62, vS (some a_2) T[at_.toNat].entries.length centries_el2), (63, vI (↑T[at_.toNat].entries.length : Int)), (64, vI (IntKind.i64.wrap ((↑i : Int) + 1)))] [LB.mk [cS (some a_1) T.length c0, cI root, SC.v (Value.map (some m)), cI s.snd] 89, LB.mk [SC.bo T[at_.toNat].leaf, cS (some a_2) T[at_.toNat].entries.length centries_el2, cS Akids_el2 T[at_.toNat].kids.length ckids_el2] 96]) (by kernel_rfl) (by kernel_rfl) (by kernel_rfl) ?_
            rw [wrap_succ (by omega)]; exact ih (i + 1) ⟨by omega, fun j h hj => (by rcases Nat.lt_succ_iff_lt_or_eq.1 hj with h1 | h1; exact hI.2 j h h1; subst h1; rfl)⟩ (by omega)
          · intro hb4
            replace hb4 := of_decide_eq_false hb4
            (exfalso; omega)
        · exact absurd hhi id
        · exact absurd hhi id
        · obtain ⟨pkhi, cshi, hrdhi, hclhi⟩ := hhi
          obtain ⟨bhi, Bhi, dhi, rfl, hbbhi, hbfhi, hbrhi⟩ := kEn_inv hrdhi
          refine go mixed 2000 [0, 2, 3, 4, 11, 62, 63, 64, 65] 2 (St.mk Rg.no [kCd (bitL 10 495), kCd (bitL 10 1007), kLp (bitL 8 239), KI.block 0, kCd (bitL 5 31)] [(0, vR 0 0), (2, vI dp), (3, SV.one (SC.v (Value.pointer none))), (4, vP ahi), (11, vR 1 0), (62, vS Aentries_el2 T[at_.toNat].entries.length centries_el2), (63, vI (↑T[at_.toNat].entries.length : Int)), (64, vI (↑i : Int)), (65, vB (decide ((↑i : Int) < (↑T[at_.toNat].entries.length : Int))))] [LB.mk [cS (some a_1) T.length c0, cI root, SC.v (Value.map (some m)), cI s.snd] 89, LB.mk [SC.bo T[at_.toNat].leaf, cS Aentries_el2 T[at_.toNat].entries.length centries_el2, cS Akids_el2 T[at_.toNat].kids.length ckids_el2] 96]) (by kernel_rfl) (by kernel_rfl) (by kernel_rfl) ?_
          refine split_at 65 (b := decide ((↑i : Int) < (↑T[at_.toNat].entries.length : Int))) (by kernel_rfl) (by kernel_rfl) ?_ ?_
          rotate_left
          · intro hb4
            replace hb4 := of_decide_eq_false hb4
            (exfalso; omega)
          intro hb4
          replace hb4 := of_decide_eq_true hb4
          refine go mixed 2000 [0, 2, 3, 4, 11, 62, 63, 64] 2 (St.mk (Rg.sq (bitL 13 3055) 0) [kCd (bitL 13 7151), KI.block 1, kCd (bitL 11 2031), kLp (bitL 8 239), KI.block 0, kCd (bitL 5 31)] [(0, vR 0 0), (2, vI dp), (3, SV.one (SC.v (Value.pointer none))), (4, vP ahi), (11, vR 1 0), (62, vS Aentries_el2 T[at_.toNat].entries.length centries_el2), (63, vI (↑T[at_.toNat].entries.length : Int)), (64, vI (↑i : Int))] [LB.mk [cS (some a_1) T.length c0, cI root, SC.v (Value.map (some m)), cI s.snd] 89, LB.mk [SC.bo T[at_.toNat].leaf, cS Aentries_el2 T[at_.toNat].entries.length centries_el2, cS Akids_el2 T[at_.toNat].kids.length ckids_el2] 96]) (by kernel_rfl) (by kernel_rfl) (by kernel_rfl) ?_
          refine index_at 0 (by kernel_rfl : atP _ _ _ 0 false = some (Op.indexAddr 34 (tmpO 62) (tmpO 64), 0, some 66, Rg.sq (bitL 13 3055) 1)) (ni := i) (sz := 5) (by kernel_rfl) rfl rfl rfl (by assumption) (fun L w1 hs => rd_some (i := i) (rdRow_ext (hs.old 0 rfl) hr1_el2) (by assumption)) ?_
          intro a_2 ha_2
          cases ha_2
          refine go mixed 2000 [0, 2, 3, 4, 11, 62, 63, 64, 66] 2 (St.mk (Rg.sq (bitL 13 3055) 1) [kCd (bitL 13 7151), KI.block 1, kCd (bitL 11 2031), kLp (bitL 8 239), KI.block 0, kCd (bitL 5 31)] [(0, vR 0 0), (2, vI dp), (3, SV.one (SC.v (Value.pointer none))), (4, vP ahi), (11, vR 1 0), (62, vS (some a_2) T[at_.toNat].entries.length centries_el2), (63, vI (↑T[at_.toNat].entries.length : Int)), (64, vI (↑i : Int)), (66, vP (a_2.add (i * 5)))] [LB.mk [cS (some a_1) T.length c0, cI root, SC.v (Value.map (some m)), cI s.snd] 89, LB.mk [SC.bo T[at_.toNat].leaf, cS (some a_2) T[at_.toNat].entries.length centries_el2, cS Akids_el2 T[at_.toNat].kids.length ckids_el2] 96]) (by kernel_rfl) (by kernel_rfl) (by kernel_rfl) ?_
          obtain ⟨bkey_f_el3, Akey_t_el3, ckey_t_el3, hr1_el3, hr2_el3, hr3_el3, hc_el3⟩ := Go.Proofs.Ytgleoebogikooaa.Dk.kEn_at (i := i) hr1_el2 (by assumption)
          refine load_agg 1 (by kernel_rfl : atP _ _ _ 1 true = some (Op.load 101 (tmpO 66), 101, some 67, Rg.sq (bitL 13 3055) 2)) (n := 5) (by kernel_rfl) rfl ?_
          intro L w1 hs
          refine ⟨[.v (Value.int IntKind.i64 T[at_.toNat].entries[i].key.kind), .v (Value.int IntKind.i64 T[at_.toNat].entries[i].key.n), .v (Value.float FloatKind.f64 bkey_f_el3), .v (Value.slice Akey_t_el3 T[at_.toNat].entries[i].key.t.length ckey_t_el3), .v (Value.int IntKind.i64 T[at_.toNat].entries[i].id)], rfl, cells_at0 (cellsH_ext (hs.old 0 rfl) hc_el3) rfl, ?_⟩
          clear hs
          refine go mixed 2000 [0, 2, 3, 4, 11, 62, 63, 64, 78, 81, 82, 84] 2 (St.mk (Rg.dr (bitL 14 7151) (bitL 22 131071) 5 2) [kCd (bitL 14 15343), KI.block 1, kCd (bitL 11 2031), kLp (bitL 8 239), KI.block 0, kCd (bitL 5 31)] [(0, vR 0 0), (2, vI dp), (3, SV.one (SC.v (Value.pointer none))), (4, vP ahi), (11, vR 1 0), (62, vS (some a_2) T[at_.toNat].entries.length centries_el2), (63, vI (↑T[at_.toNat].entries.length : Int)), (64, vI (↑i : Int)), (78, vL false), (81, vL true), (82, SV.agg [cI T[at_.toNat].entries[i].key.kind, cI T[at_.toNat].entries[i].key.n, cF bkey_f_el3, cS Akey_t_el3 T[at_.toNat].entries[i].key.t.length ckey_t_el3, cI T[at_.toNat].entries[i].id]), (84, vP ahi)] [LB.mk [cS (some a_1) T.length c0, cI root, SC.v (Value.map (some m)), cI s.snd] 89, LB.mk [SC.bo T[at_.toNat].leaf, cS (some a_2) T[at_.toNat].entries.length centries_el2, cS Akids_el2 T[at_.toNat].kids.length ckids_el2] 96]) (by kernel_rfl) (by kernel_rfl) (by kernel_rfl) ?_
          refine load_agg 17 (by kernel_rfl : atP _ _ _ 17 true = some (Op.load 101 (tmpO 84), 101, some 85, Rg.dr (bitL 14 7151) (bitL 22 262143) 4 2)) (n := 5) (by kernel_rfl) rfl ?_
          intro L w1 hs
          refine ⟨[.v (.int .i64 xhi.key.kind), .v (.int .i64 xhi.key.n), .v (.float .f64 bhi), .v (.slice Bhi xhi.key.t.length dhi), .v (.int .i64 xhi.id)], rfl, cells_at0 (cellsH_ext (hs.old 0 rfl) hclhi) rfl, ?_⟩
          clear hs
          refine go mixed 2000 [0, 2, 3, 4, 11, 62, 63, 64, 78, 81, 82, 85] 2 (St.mk (Rg.dr (bitL 14 7151) (bitL 22 262143) 4 2) [kCd (bitL 14 15343), KI.block 1, kCd (bitL 11 2031), kLp (bitL 8 239), KI.block 0, kCd (bitL 5 31)] [(0, vR 0 0), (2, vI dp), (3, SV.one (SC.v (Value.pointer none))), (4, vP ahi), (11, vR 1 0), (62, vS (some a_2) T[at_.toNat].entries.length centries_el2), (63, vI (↑T[at_.toNat].entries.length : Int)), (64, vI (↑i : Int)), (78, vL false), (81, vL true), (82, SV.agg [cI T[at_.toNat].entries[i].key.kind, cI T[at_.toNat].entries[i].key.n, cF bkey_f_el3, cS Akey_t_el3 T[at_.toNat].entries[i].key.t.length ckey_t_el3, cI T[at_.toNat].entries[i].id]), (85, SV.agg [cI xhi.key.kind, cI xhi.key.n, cF bhi, cS Bhi xhi.key.t.length dhi, cI xhi.id])] [LB.mk [cS (some a_1) T.length c0, cI root, SC.v (Value.map (some m)), cI s.snd] 89, LB.mk [SC.bo T[at_.toNat].leaf, cS (some a_2) T[at_.toNat].entries.length centries_el2, cS Akids_el2 T[at_.toNat].kids.length ckids_el2] 96]) (by kernel_rfl) (by kernel_rfl) (by kernel_rfl) ?_
          refine call_pure true (by kernel_rfl : atC _ _ _ true = some (100, [SV.agg [cI T[at_.toNat].entries[i].key.kind, cI T[at_.toNat].entries[i].key.n, cF bkey_f_el3, cS Akey_t_el3 T[at_.toNat].entries[i].key.t.length ckey_t_el3, cI T[at_.toNat].entries[i].id], SV.agg [cI xhi.key.kind, cI xhi.key.n, cF bhi, cS Bhi xhi.key.t.length dhi, cI xhi.id]], some 86, Rg.dr (bitL 14 7151) (bitL 22 524287) 3 12)) (by kernel_rfl) (.one (.v (Value.int IntKind.i64 (cmpEn T[at_.toNat].entries[i] xhi)))) (fun L w1 hs => (Go.Proofs.Ytgleoebogikooaa.Dk.iCmpEn_ok (T[at_.toNat].entries[i]) ([Value.int IntKind.i64 T[at_.toNat].entries[i].key.kind, Value.int IntKind.i64 T[at_.toNat].entries[i].key.n, Value.float FloatKind.f64 bkey_f_el3, Value.slice Akey_t_el3 T[at_.toNat].entries[i].key.t.length ckey_t_el3, Value.int IntKind.i64 T[at_.toNat].entries[i].id]) (xhi) ([Value.int IntKind.i64 xhi.key.kind, Value.int IntKind.i64 xhi.key.n, Value.float FloatKind.f64 bhi, Value.slice Bhi xhi.key.t.length dhi, Value.int IntKind.i64 xhi.id]) w1 (Go.Proofs.Ytgleoebogikooaa.Dk.kEn_mk (by assumption) hr2_el3 (rdRow_ext (hs.old 0 rfl) hr3_el3)) (Go.Proofs.Ytgleoebogikooaa.Dk.kEn_mk (by assumption) hbfhi (rdRow_ext (hs.old 0 rfl) hbrhi)) (by exact sd_3 _ _) (by assumption))) ?_
          refine go mixed 2000 [0, 2, 3, 4, 11, 62, 63, 64, 89] 2 (St.mk Rg.no [kCd (bitL 14 15343), KI.block 1, kCd (bitL 11 2031), kLp (bitL 8 239), KI.block 0, kCd (bitL 5 31)] [(0, vR 0 0), (2, vI dp), (3, SV.one (SC.v (Value.pointer none))), (4, vP ahi), (11, vR 1 0), (62, vS (some a_2) T[at_.toNat].entries.length centries_el2), (63, vI (↑T[at_.toNat].entries.length : Int)), (64, vI (↑i : Int)), (89, vB (decide (cmpEn T[at_.toNat].entries[i] xhi ≥ 0)))] [LB.mk [cS (some a_1) T.length c0, cI root, SC.v (Value.map (some m)), cI s.snd] 89, LB.mk [SC.bo T[at_.toNat].leaf, cS (some a_2) T[at_.toNat].entries.length centries_el2, cS Akids_el2 T[at_.toNat].kids.length ckids_el2] 96]) (by kernel_rfl) (by kernel_rfl) (by kernel_rfl) ?_
          refine split_at 89 (b := decide (cmpEn T[at_.toNat].entries[i] xhi ≥ 0)) (by kernel_rfl) (by kernel_rfl) ?_ ?_
          · intro hb5
            replace hb5 := of_decide_eq_true hb5
            refine go mixed 2000 [10] 1 (St.mk Rg.no [kCd (bitL 16 48111), KI.block 1, kCd (bitL 11 2031), kLp (bitL 8 239), KI.block 0, kCd (bitL 5 31)] [(10, vL false)] [LB.mk [cS (some a_1) T.length c0, cI root, SC.v (Value.map (some m)), cI s.snd] 89]) (by kernel_rfl) (by kernel_rfl) (by kernel_rfl) ?_
            refine ret_ok (vs := [vL false]) (by kernel_rfl) ?_
            intro L w1 hs
            exact ⟨false, (s.1 ++ [at_], s.2), rfl, fin_ptr hs hag rfl rfl hgS, by rw [chk_no hlt (fun hc => by have := List.all_eq_true.1 hc.2.2 _ (List.getElem_mem (show i < T[at_.toNat].entries.length by omega)); simp only [okLo, okHi, Bool.and_eq_true, Bool.or_eq_true, Bool.not_eq_true', Bool.not_eq_false', Bool.and_eq_false_imp, Bool.or_eq_false_iff, decide_eq_true_eq, decide_eq_false_iff_not, beq_iff_eq, bne_iff_ne, Bool.false_eq_true, Bool.true_eq_false, ne_eq, true_iff, false_iff, iff_true, iff_false, true_and, and_true] at this; omega)]; rfl⟩
          · intro hb5
            replace hb5 := of_decide_eq_false hb5
            refine go mixed 2000 [0, 2, 3, 4, 11, 62, 63, 64] 2 (St.mk Rg.no [kLp (bitL 8 239), KI.block 0, kCd (bitL 5 31)] [(0, vR 0 0), (2, vI dp), (3, SV.one (SC.v (Value.pointer none))), (4, vP ahi), (11, vR 1 0), (62, vS (some a_2) T[at_.toNat].entries.length centries_el2), (63, vI (↑T[at_.toNat].entries.length : Int)), (64, vI (IntKind.i64.wrap ((↑i : Int) + 1)))] [LB.mk [cS (some a_1) T.length c0, cI root, SC.v (Value.map (some m)), cI s.snd] 89, LB.mk [SC.bo T[at_.toNat].leaf, cS (some a_2) T[at_.toNat].entries.length centries_el2, cS Akids_el2 T[at_.toNat].kids.length ckids_el2] 96]) (by kernel_rfl) (by kernel_rfl) (by kernel_rfl) ?_
            rw [wrap_succ (by omega)]; exact ih (i + 1) ⟨by omega, fun j h hj => (by rcases Nat.lt_succ_iff_lt_or_eq.1 hj with h1 | h1; exact hI.2 j h h1; subst h1; simp only [okLo, okHi, Bool.and_eq_true, Bool.or_eq_true, Bool.not_eq_true', Bool.not_eq_false', Bool.and_eq_false_imp, Bool.or_eq_false_iff, decide_eq_true_eq, decide_eq_false_iff_not, beq_iff_eq, bne_iff_ne, Bool.false_eq_true, Bool.true_eq_false, ne_eq, true_iff, false_iff, iff_true, iff_false, true_and, and_true]; omega)⟩ (by omega)
      · exact absurd hlo id
      · exact absurd hlo id
      · rcases phi with _ | ahi <;> rcases hi with _ | xhi
        · obtain ⟨pklo, cslo, hrdlo, hcllo⟩ := hlo
          obtain ⟨blo, Blo, dlo, rfl, hbblo, hbflo, hbrlo⟩ := kEn_inv hrdlo
          refine go mixed 2000 [0, 2, 3, 4, 11, 62, 63, 64, 65] 2 (St.mk Rg.no [kCd (bitL 10 495), kCd (bitL 10 1007), kLp (bitL 8 239), KI.block 0, kCd (bitL 5 31)] [(0, vR 0 0), (2, vI dp), (3, vP alo), (4, SV.one (SC.v (Value.pointer none))), (11, vR 1 0), (62, vS Aentries_el2 T[at_.toNat].entries.length centries_el2), (63, vI (↑T[at_.toNat].entries.length : Int)), (64, vI (↑i : Int)), (65, vB (decide ((↑i : Int) < (↑T[at_.toNat].entries.length : Int))))] [LB.mk [cS (some a_1) T.length c0, cI root, SC.v (Value.map (some m)), cI s.snd] 89, LB.mk [SC.bo T[at_.toNat].leaf, cS Aentries_el2 T[at_.toNat].entries.length centries_el2, cS Akids_el2 T[at_.toNat].kids.length ckids_el2] 96]) (by kernel_rfl) (by kernel_rfl) (by kernel_rfl) ?_
          refine split_at 65 (b := decide ((↑i : Int) < (↑T[at_.toNat].entries.length : Int))) (by kernel_rfl) (by kernel_rfl) ?_ ?_
          rotate_left
          · intro hb4
            replace hb4 := of_decide_eq_false hb4
            (exfalso; omega)
          intro hb4
          replace hb4 := of_decide_eq_true hb4
          refine go mixed 2000 [0, 2, 3, 4, 11, 62, 63, 64] 2 (St.mk (Rg.sq (bitL 13 3055) 0) [kCd (bitL 13 7151), KI.block 1, kCd (bitL 11 2031), kLp (bitL 8 239), KI.block 0, kCd (bitL 5 31)] [(0, vR 0 0), (2, vI dp), (3, vP alo), (4, SV.one (SC.v (Value.pointer none))), (11, vR 1 0), (62, vS Aentries_el2 T[at_.toNat].entries.length centries_el2), (63, vI (↑T[at_.toNat].entries.length : Int)), (64, vI (↑i : Int))] [LB.mk [cS (some a_1) T.length c0, cI root, SC.v (Value.map (some m)), cI s.snd] 89, LB.mk [SC.bo T[at_.toNat].leaf, cS Aentries_el2 T[at_.toNat].entries.length centries_el2, cS Akids_el2 T[at_.toNat].kids.length ckids_el2] 96]) (by kernel_rfl) (by kernel_rfl) (by kernel_rfl) ?_
          refine index_at 0 (by kernel_rfl : atP _ _ _ 0 false = some (Op.indexAddr 34 (tmpO 62) (tmpO 64), 0, some 66, Rg.sq (bitL 13 3055) 1)) (ni := i) (sz := 5) (by kernel_rfl) rfl rfl rfl (by assumption) (fun L w1 hs => rd_some (i := i) (rdRow_ext (hs.old 0 rfl) hr1_el2) (by assumption)) ?_
          intro a_2 ha_2
          cases ha_2
          refine go mixed 2000 [0, 2, 3, 4, 11, 62, 63, 64, 66] 2 (St.mk (Rg.sq (bitL 13 3055) 1) [kCd (bitL 13 7151), KI.block 1, kCd (bitL 11 2031), kLp (bitL 8 239), KI.block 0, kCd (bitL 5 31)] [(0, vR 0 0), (2, vI dp), (3, vP alo), (4, SV.one (SC.v (Value.pointer none))), (11, vR 1 0), (62, vS (some a_2) T[at_.toNat].entries.length centries_el2), (63, vI (↑T[at_.toNat].entries.length : Int)), (64, vI (↑i : Int)), (66, vP (a_2.add (i * 5)))] [LB.mk [cS (some a_1) T.length c0, cI root, SC.v (Value.map (some m)), cI s.snd] 89, LB.mk [SC.bo T[at_.toNat].leaf, cS (some a_2) T[at_.toNat].entries.length centries_el2, cS Akids_el2 T[at_.toNat].kids.length ckids_el2] 96]) (by kernel_rfl) (by kernel_rfl) (by kernel_rfl) ?_
          obtain ⟨bkey_f_el3, Akey_t_el3, ckey_t_el3, hr1_el3, hr2_el3, hr3_el3, hc_el3⟩ := Go.Proofs.Ytgleoebogikooaa.Dk.kEn_at (i := i) hr1_el2 (by assumption)
          refine load_agg 1 (by kernel_rfl : atP _ _ _ 1 true = some (Op.load 101 (tmpO 66), 101, some 67, Rg.sq (bitL 13 3055) 2)) (n := 5) (by kernel_rfl) rfl ?_
          intro L w1 hs
          refine ⟨[.v (Value.int IntKind.i64 T[at_.toNat].entries[i].key.kind), .v (Value.int IntKind.i64 T[at_.toNat].entries[i].key.n), .v (Value.float FloatKind.f64 bkey_f_el3), .v (Value.slice Akey_t_el3 T[at_.toNat].entries[i].key.t.length ckey_t_el3), .v (Value.int IntKind.i64 T[at_.toNat].entries[i].id)], rfl, cells_at0 (cellsH_ext (hs.old 0 rfl) hc_el3) rfl, ?_⟩
          clear hs
          refine go mixed 2000 [0, 2, 3, 4, 11, 13, 62, 63, 64, 70, 71, 73] 3 (St.mk (Rg.dr (bitL 14 7151) (bitL 22 63) 16 2) [kCd (bitL 14 15343), KI.block 1, kCd (bitL 11 2031), kLp (bitL 8 239), KI.block 0, kCd (bitL 5 31)] [(0, vR 0 0), (2, vI dp), (3, vP alo), (4, SV.one (SC.v (Value.pointer none))), (11, vR 1 0), (13, vR 2 0), (62, vS (some a_2) T[at_.toNat].entries.length centries_el2), (63, vI (↑T[at_.toNat].entries.length : Int)), (64, vI (↑i : Int)), (70, vL true), (71, SV.agg [cI T[at_.toNat].entries[i].key.kind, cI T[at_.toNat].entries[i].key.n, cF bkey_f_el3, cS Akey_t_el3 T[at_.toNat].entries[i].key.t.length ckey_t_el3, cI T[at_.toNat].entries[i].id]), (73, vP alo)] [LB.mk [cS (some a_1) T.length c0, cI root, SC.v (Value.map (some m)), cI s.snd] 89, LB.mk [SC.bo T[at_.toNat].leaf, cS (some a_2) T[at_.toNat].entries.length centries_el2, cS Akids_el2 T[at_.toNat].kids.length ckids_el2] 96, LB.mk [cI T[at_.toNat].entries[i].key.kind, cI T[at_.toNat].entries[i].key.n, cF bkey_f_el3, cS Akey_t_el3 T[at_.toNat].entries[i].key.t.length ckey_t_el3, cI T[at_.toNat].entries[i].id] 101]) (by kernel_rfl) (by kernel_rfl) (by kernel_rfl) ?_
          refine load_agg 6 (by kernel_rfl : atP _ _ _ 6 true = some (Op.load 101 (tmpO 73), 101, some 74, Rg.dr (bitL 14 7151) (bitL 22 127) 15 2)) (n := 5) (by kernel_rfl) rfl ?_
          intro L w1 hs
          refine ⟨[.v (.int .i64 xlo.key.kind), .v (.int .i64 xlo.key.n), .v (.float .f64 blo), .v (.slice Blo xlo.key.t.length dlo), .v (.int .i64 xlo.id)], rfl, cells_at0 (cellsH_ext (hs.old 0 rfl) hcllo) rfl, ?_⟩
          clear hs
          refine go mixed 2000 [0, 2, 3, 4, 11, 13, 62, 63, 64, 70, 71, 74] 3 (St.mk (Rg.dr (bitL 14 7151) (bitL 22 127) 15 2) [kCd (bitL 14 15343), KI.block 1, kCd (bitL 11 2031), kLp (bitL 8 239), KI.block 0, kCd (bitL 5 31)] [(0, vR 0 0), (2, vI dp), (3, vP alo), (4, SV.one (SC.v (Value.pointer none))), (11, vR 1 0), (13, vR 2 0), (62, vS (some a_2) T[at_.toNat].entries.length centries_el2), (63, vI (↑T[at_.toNat].entries.length : Int)), (64, vI (↑i : Int)), (70, vL true), (71, SV.agg [cI T[at_.toNat].entries[i].key.kind, cI T[at_.toNat].entries[i].key.n, cF bkey_f_el3, cS Akey_t_el3 T[at_.toNat].entries[i].key.t.length ckey_t_el3, cI T[at_.toNat].entries[i].id]), (74, SV.agg [cI xlo.key.kind, cI xlo.key.n, cF blo, cS Blo xlo.key.t.length dlo, cI xlo.id])] [LB.mk [cS (some a_1) T.length c0, cI root, SC.v (Value.map (some m)), cI s.snd] 89, LB.mk [SC.bo T[at_.toNat].leaf, cS (some a_2) T[at_.toNat].entries.length centries_el2, cS Akids_el2 T[at_.toNat].kids.length ckids_el2] 96, LB.mk [cI T[at_.toNat].entries[i].key.kind, cI T[at_.toNat].entries[i].key.n, cF bkey_f_el3, cS Akey_t_el3 T[at_.toNat].entries[i].key.t.length ckey_t_el3, cI T[at_.toNat].entries[i].id] 101]) (by kernel_rfl) (by kernel_rfl) (by kernel_rfl) ?_
          refine call_pure true (by kernel_rfl : atC _ _ _ true = some (100, [SV.agg [cI T[at_.toNat].entries[i].key.kind, cI T[at_.toNat].entries[i].key.n, cF bkey_f_el3, cS Akey_t_el3 T[at_.toNat].entries[i].key.t.length ckey_t_el3, cI T[at_.toNat].entries[i].id], SV.agg [cI xlo.key.kind, cI xlo.key.n, cF blo, cS Blo xlo.key.t.length dlo, cI xlo.id]], some 75, Rg.dr (bitL 14 7151) (bitL 22 255) 14 13)) (by kernel_rfl) (.one (.v (Value.int IntKind.i64 (cmpEn T[at_.toNat].entries[i] xlo)))) (fun L w1 hs => (Go.Proofs.Ytgleoebogikooaa.Dk.iCmpEn_ok (T[at_.toNat].entries[i]) ([Value.int IntKind.i64 T[at_.toNat].entries[i].key.kind, Value.int IntKind.i64 T[at_.toNat].entries[i].key.n, Value.float FloatKind.f64 bkey_f_el3, Value.slice Akey_t_el3 T[at_.toNat].entries[i].key.t.length ckey_t_el3, Value.int IntKind.i64 T[at_.toNat].entries[i].id]) (xlo) ([Value.int IntKind.i64 xlo.key.kind, Value.int IntKind.i64 xlo.key.n, Value.float FloatKind.f64 blo, Value.slice Blo xlo.key.t.length dlo, Value.int IntKind.i64 xlo.id]) w1 (Go.Proofs.Ytgleoebogikooaa.Dk.kEn_mk (by assumption) hr2_el3 (rdRow_ext (hs.old 0 rfl) hr3_el3)) (Go.Proofs.Ytgleoebogikooaa.Dk.kEn_mk (by assumption) hbflo (rdRow_ext (hs.old 0 rfl) hbrlo)) (by exact sd_3 _ _) (by assumption))) ?_
          refine go mixed 2000 [0, 2, 3, 4, 11, 13, 62, 63, 64, 78] 3 (St.mk (Rg.dr (bitL 14 7151) (bitL 22 2047) 11 13) [kCd (bitL 14 15343), KI.block 1, kCd (bitL 11 2031), kLp (bitL 8 239), KI.block 0, kCd (bitL 5 31)] [(0, vR 0 0), (2, vI dp), (3, vP alo), (4, SV.one (SC.v (Value.pointer none))), (11, vR 1 0), (13, vR 2 0), (62, vS (some a_2) T[at_.toNat].entries.length centries_el2), (63, vI (↑T[at_.toNat].entries.length : Int)), (64, vI (↑i : Int)), (78, vB (decide (cmpEn T[at_.toNat].entries[i] xlo < 0)))] [LB.mk [cS (some a_1) T.length c0, cI root, SC.v (Value.map (some m)), cI s.snd] 89, LB.mk [SC.bo T[at_.toNat].leaf, cS (some a_2) T[at_.toNat].entries.length centries_el2, cS Akids_el2 T[at_.toNat].kids.length ckids_el2] 96, LB.mk [cI T[at_.toNat].entries[i].key.kind, cI T[at_.toNat].entries[i].key.n, cF bkey_f_el3, cS Akey_t_el3 T[at_.toNat].entries[i].key.t.length ckey_t_el3, cI T[at_.toNat].entries[i].id] 101]) (by kernel_rfl) (by kernel_rfl) (by kernel_rfl) ?_
          refine split_at 78 (b := decide (cmpEn T[at_.toNat].entries[i] xlo < 0)) (by kernel_rfl) (by kernel_rfl) ?_ ?_
          · intro hb5
            replace hb5 := of_decide_eq_true hb5
            refine go mixed 2000 [10] 1 (St.mk Rg.no [kCd (bitL 16 48111), KI.block 1, kCd (bitL 11 2031), kLp (bitL 8 239), KI.block 0, kCd (bitL 5 31)] [(10, vL false)] [LB.mk [cS (some a_1) T.length c0, cI root, SC.v (Value.map (some m)), cI s.snd] 89]) (by kernel_rfl) (by kernel_rfl) (by kernel_rfl) ?_
            refine ret_ok (vs := [vL false]) (by kernel_rfl) ?_
            intro L w1 hs
            exact ⟨false, (s.1 ++ [at_], s.2), rfl, fin_ptr hs hag rfl rfl hgS, by rw [chk_no hlt (fun hc => by have := List.all_eq_true.1 hc.2.2 _ (List.getElem_mem (show i < T[at_.toNat].entries.length by omega)); simp only [okLo, okHi, Bool.and_eq_true, Bool.or_eq_true, Bool.not_eq_true', Bool.not_eq_false', Bool.and_eq_false_imp, Bool.or_eq_false_iff, decide_eq_true_eq, decide_eq_false_iff_not, beq_iff_eq, bne_iff_ne, Bool.false_eq_true, Bool.true_eq_false, ne_eq, true_iff, false_iff, iff_true, iff_false, true_and, and_true] at this; omega)]; rfl⟩
          · intro hb5
            replace hb5 := of_decide_eq_false hb5
            refine go mixed 2000 [0, 2, 3, 4, 11, 62, 63, 64] 2 (St.mk Rg.no [kLp (bitL 8 239), KI.block 0, kCd (bitL 5 31)] [(0, vR 0 0), (2, vI dp), (3, vP alo), (4, SV.one (SC.v (Value.pointer none))), (11, vR 1 0), (62, vS (some a_2) T[at_.toNat].entries.length centries_el2), (63, vI (↑T[at_.toNat].entries.length : Int)), (64, vI (IntKind.i64.wrap ((↑i : Int) + 1)))] [LB.mk [cS (some a_1) T.length c0, cI root, SC.v (Value.map (some m)), cI s.snd] 89, LB.mk [SC.bo T[at_.toNat].leaf, cS (some a_2) T[at_.toNat].entries.length centries_el2, cS Akids_el2 T[at_.toNat].kids.length ckids_el2] 96]) (by kernel_rfl) (by kernel_rfl) (by kernel_rfl) ?_
            rw [wrap_succ (by omega)]; exact ih (i + 1) ⟨by omega, fun j h hj => (by rcases Nat.lt_succ_iff_lt_or_eq.1 hj with h1 | h1; exact hI.2 j h h1; subst h1; simp only [okLo, okHi, Bool.and_eq_true, Bool.or_eq_true, Bool.not_eq_true', Bool.not_eq_false', Bool.and_eq_false_imp, Bool.or_eq_false_iff, decide_eq_true_eq, decide_eq_false_iff_not, beq_iff_eq, bne_iff_ne, Bool.false_eq_true, Bool.true_eq_false, ne_eq, true_iff, false_iff, iff_true, iff_false, true_and, and_true]; omega)⟩ (by omega)
        · exact absurd hhi id
        · exact absurd hhi id
        · obtain ⟨pklo, cslo, hrdlo, hcllo⟩ := hlo
          obtain ⟨blo, Blo, dlo, rfl, hbblo, hbflo, hbrlo⟩ := kEn_inv hrdlo
          obtain ⟨pkhi, cshi, hrdhi, hclhi⟩ := hhi
          obtain ⟨bhi, Bhi, dhi, rfl, hbbhi, hbfhi, hbrhi⟩ := kEn_inv hrdhi
          refine go mixed 2000 [0, 2, 3, 4, 11, 62, 63, 64, 65] 2 (St.mk Rg.no [kCd (bitL 10 495), kCd (bitL 10 1007), kLp (bitL 8 239), KI.block 0, kCd (bitL 5 31)] [(0, vR 0 0), (2, vI dp), (3, vP alo), (4, vP ahi), (11, vR 1 0), (62, vS Aentries_el2 T[at_.toNat].entries.length centries_el2), (63, vI (↑T[at_.toNat].entries.length : Int)), (64, vI (↑i : Int)), (65, vB (decide ((↑i : Int) < (↑T[at_.toNat].entries.length : Int))))] [LB.mk [cS (some a_1) T.length c0, cI root, SC.v (Value.map (some m)), cI s.snd] 89, LB.mk [SC.bo T[at_.toNat].leaf, cS Aentries_el2 T[at_.toNat].entries.length centries_el2, cS Akids_el2 T[at_.toNat].kids.length ckids_el2] 96]) (by kernel_rfl) (by kernel_rfl) (by kernel_rfl) ?_
          refine split_at 65 (b := decide ((↑i : Int) < (↑T[at_.toNat].entries.length : Int))) (by kernel_rfl) (by kernel_rfl) ?_ ?_
          rotate_left
          · intro hb4
            replace hb4 := of_decide_eq_false hb4
            (exfalso; omega)
          intro hb4
          replace hb4 := of_decide_eq_true hb4
          refine go mixed 2000 [0, 2, 3, 4, 11, 62, 63, 64] 2 (St.mk (Rg.sq (bitL 13 3055) 0) [kCd (bitL 13 7151), KI.block 1, kCd (bitL 11 2031), kLp (bitL 8 239), KI.block 0, kCd (bitL 5 31)] [(0, vR 0 0), (2, vI dp), (3, vP alo), (4, vP ahi), (11, vR 1 0), (62, vS Aentries_el2 T[at_.toNat].entries.length centries_el2), (63, vI (↑T[at_.toNat].entries.length : Int)), (64, vI (↑i : Int))] [LB.mk [cS (some a_1) T.length c0, cI root, SC.v (Value.map (some m)), cI s.snd] 89, LB.mk [SC.bo T[at_.toNat].leaf, cS Aentries_el2 T[at_.toNat].entries.length centries_el2, cS Akids_el2 T[at_.toNat].kids.length ckids_el2] 96]) (by kernel_rfl) (by kernel_rfl) (by kernel_rfl) ?_
          refine index_at 0 (by kernel_rfl : atP _ _ _ 0 false = some (Op.indexAddr 34 (tmpO 62) (tmpO 64), 0, some 66, Rg.sq (bitL 13 3055) 1)) (ni := i) (sz := 5) (by kernel_rfl) rfl rfl rfl (by assumption) (fun L w1 hs => rd_some (i := i) (rdRow_ext (hs.old 0 rfl) hr1_el2) (by assumption)) ?_
          intro a_2 ha_2
          cases ha_2
          refine go mixed 2000 [0, 2, 3, 4, 11, 62, 63, 64, 66] 2 (St.mk (Rg.sq (bitL 13 3055) 1) [kCd (bitL 13 7151), KI.block 1, kCd (bitL 11 2031), kLp (bitL 8 239), KI.block 0, kCd (bitL 5 31)] [(0, vR 0 0), (2, vI dp), (3, vP alo), (4, vP ahi), (11, vR 1 0), (62, vS (some a_2) T[at_.toNat].entries.length centries_el2), (63, vI (↑T[at_.toNat].entries.length : Int)), (64, vI (↑i : Int)), (66, vP (a_2.add (i * 5)))] [LB.mk [cS (some a_1) T.length c0, cI root, SC.v (Value.map (some m)), cI s.snd] 89, LB.mk [SC.bo T[at_.toNat].leaf, cS (some a_2) T[at_.toNat].entries.length centries_el2, cS Akids_el2 T[at_.toNat].kids.length ckids_el2] 96]) (by kernel_rfl) (by kernel_rfl) (by kernel_rfl) ?_
          obtain ⟨bkey_f_el3, Akey_t_el3, ckey_t_el3, hr1_el3, hr2_el3, hr3_el3, hc_el3⟩ := Go.Proofs.Ytgleoebogikooaa.Dk.kEn_at (i := i) hr1_el2 (by assumption)
          refine load_agg 1 (by kernel_rfl : atP _ _ _ 1 true = some (Op.load 101 (tmpO 66), 101, some 67, Rg.sq (bitL 13 3055) 2)) (n := 5) (by kernel_rfl) rfl ?_
          intro L w1 hs
          refine ⟨[.v (Value.int IntKind.i64 T[at_.toNat].entries[i].key.kind), .v (Value.int IntKind.i64 T[at_.toNat].entries[i].key.n), .v (Value.float FloatKind.f64 bkey_f_el3), .v (Value.slice Akey_t_el3 T[at_.toNat].entries[i].key.t.length ckey_t_el3), .v (Value.int IntKind.i64 T[at_.toNat].entries[i].id)], rfl, cells_at0 (cellsH_ext (hs.old 0 rfl) hc_el3) rfl, ?_⟩
          clear hs
          refine go mixed 2000 [0, 2, 3, 4, 11, 13, 62, 63, 64, 70, 71, 73] 3 (St.mk (Rg.dr (bitL 14 7151) (bitL 22 63) 16 2) [kCd (bitL 14 15343), KI.block 1, kCd (bitL 11 2031), kLp (bitL 8 239), KI.block 0, kCd (bitL 5 31)] [(0, vR 0 0), (2, vI dp), (3, vP alo), (4, vP ahi), (11, vR 1 0), (13, vR 2 0), (62, vS (some a_2) T[at_.toNat].entries.length centries_el2), (63, vI (↑T[at_.toNat].entries.length : Int)), (64, vI (↑i : Int)), (70, vL true), (71, SV.agg [cI T[at_.toNat].entries[i].key.kind, cI T[at_.toNat].entries[i].key.n, cF bkey_f_el3, cS Akey_t_el3 T[at_.toNat].entries[i].key.t.length ckey_t_el3, cI T[at_.toNat].entries[i].id]), (73, vP alo)] [LB.mk [cS (some a_1) T.length c0, cI root, SC.v (Value.map (some m)), cI s.snd] 89, LB.mk [SC.bo T[at_.toNat].leaf, cS (some a_2) T[at_.toNat].entries.length centries_el2, cS Akids_el2 T[at_.toNat].kids.length ckids_el2] 96, LB.mk [cI T[at_.toNat].entries[i].key.kind, cI T[at_.toNat].entries[i].key.n, cF bkey_f_el3, cS Akey_t_el3 T[at_.toNat].entries[i].key.t.length ckey_t_el3, cI T[at_.toNat].entries[i].id] 101]) (by kernel_rfl) (by kernel_rfl) (by kernel_rfl) ?_
          refine load_agg 6 (by kernel_rfl : atP _ _ _ 6 true = some (Op.load 101 (tmpO 73), 101, some 74, Rg.dr (bitL 14 7151) (bitL 22 127) 15 2)) (n := 5) (by kernel_rfl) rfl ?_
          intro L w1 hs
          refine ⟨[.v (.int .i64 xlo.key.kind), .v (.int .i64 xlo.key.n), .v (.float .f64 blo), .v (.slice Blo xlo.key.t.length dlo), .v (.int .i64 xlo.id)], rfl, cells_at0 (cellsH_ext (hs.old 0 rfl) hcllo) rfl, ?_⟩
          clear hs
          refine go mixed 2000 [0, 2, 3, 4, 11, 13, 62, 63, 64, 70, 71, 74] 3 (St.mk (Rg.dr (bitL 14 7151) (bitL 22 127) 15 2) [kCd (bitL 14 15343), KI.block 1, kCd (bitL 11 2031), kLp (bitL 8 239), KI.block 0, kCd (bitL 5 31)] [(0, vR 0 0), (2, vI dp), (3, vP alo), (4, vP ahi), (11, vR 1 0), (13, vR 2 0), (62, vS (some a_2) T[at_.toNat].entries.length centries_el2), (63, vI (↑T[at_.toNat].entries.length : Int)), (64, vI (↑i : Int)), (70, vL true), (71, SV.agg [cI T[at_.toNat].entries[i].key.kind, cI T[at_.toNat].entries[i].key.n, cF bkey_f_el3, cS Akey_t_el3 T[at_.toNat].entries[i].key.t.length ckey_t_el3, cI T[at_.toNat].entries[i].id]), (74, SV.agg [cI xlo.key.kind, cI xlo.key.n, cF blo, cS Blo xlo.key.t.length dlo, cI xlo.id])] [LB.mk [cS (some a_1) T.length c0, cI root, SC.v (Value.map (some m)), cI s.snd] 89, LB.mk [SC.bo T[at_.toNat].leaf, cS (some a_2) T[at_.toNat].entries.length centries_el2, cS Akids_el2 T[at_.toNat].kids.length ckids_el2] 96, LB.mk [cI T[at_.toNat].entries[i].key.kind, cI T[at_.toNat].entries[i].key.n, cF bkey_f_el3, cS Akey_t_el3 T[at_.toNat].entries[i].key.t.length ckey_t_el3, cI T[at_.toNat].entries[i].id] 101]) (by kernel_rfl) (by kernel_rfl) (by kernel_rfl) ?_
          refine call_pure true (by kernel_rfl : atC _ _ _ true = some (100, [SV.agg [cI T[at_.toNat].entries[i].key.kind, cI T[at_.toNat].entries[i].key.n, cF bkey_f_el3, cS Akey_t_el3 T[at_.toNat].entries[i].key.t.length ckey_t_el3, cI T[at_.toNat].entries[i].id], SV.agg [cI xlo.key.kind, cI xlo.key.n, cF blo, cS Blo xlo.key.t.length dlo, cI xlo.id]], some 75, Rg.dr (bitL 14 7151) (bitL 22 255) 14 13)) (by kernel_rfl) (.one (.v (Value.int IntKind.i64 (cmpEn T[at_.toNat].entries[i] xlo)))) (fun L w1 hs => (Go.Proofs.Ytgleoebogikooaa.Dk.iCmpEn_ok (T[at_.toNat].entries[i]) ([Value.int IntKind.i64 T[at_.toNat].entries[i].key.kind, Value.int IntKind.i64 T[at_.toNat].entries[i].key.n, Value.float FloatKind.f64 bkey_f_el3, Value.slice Akey_t_el3 T[at_.toNat].entries[i].key.t.length ckey_t_el3, Value.int IntKind.i64 T[at_.toNat].entries[i].id]) (xlo) ([Value.int IntKind.i64 xlo.key.kind, Value.int IntKind.i64 xlo.key.n, Value.float FloatKind.f64 blo, Value.slice Blo xlo.key.t.length dlo, Value.int IntKind.i64 xlo.id]) w1 (Go.Proofs.Ytgleoebogikooaa.Dk.kEn_mk (by assumption) hr2_el3 (rdRow_ext (hs.old 0 rfl) hr3_el3)) (Go.Proofs.Ytgleoebogikooaa.Dk.kEn_mk (by assumption) hbflo (rdRow_ext (hs.old 0 rfl) hbrlo)) (by exact sd_3 _ _) (by assumption))) ?_
          refine go mixed 2000 [0, 2, 3, 4, 11, 13, 62, 63, 64, 78] 3 (St.mk (Rg.dr (bitL 14 7151) (bitL 22 2047) 11 13) [kCd (bitL 14 15343), KI.block 1, kCd (bitL 11 2031), kLp (bitL 8 239), KI.block 0, kCd (bitL 5 31)] [(0, vR 0 0), (2, vI dp), (3, vP alo), (4, vP ahi), (11, vR 1 0), (13, vR 2 0), (62, vS (some a_2) T[at_.toNat].entries.length centries_el2), (63, vI (↑T[at_.toNat].entries.length : Int)), (64, vI (↑i : Int)), (78, vB (decide (cmpEn T[at_.toNat].entries[i] xlo < 0)))] [LB.mk [cS (some a_1) T.length c0, cI root, SC.v (Value.map (some m)), cI s.snd] 89, LB.mk [SC.bo T[at_.toNat].leaf, cS (some a_2) T[at_.toNat].entries.length centries_el2, cS Akids_el2 T[at_.toNat].kids.length ckids_el2] 96, LB.mk [cI T[at_.toNat].entries[i].key.kind, cI T[at_.toNat].entries[i].key.n, cF bkey_f_el3, cS Akey_t_el3 T[at_.toNat].entries[i].key.t.length ckey_t_el3, cI T[at_.toNat].entries[i].id] 101]) (by kernel_rfl) (by kernel_rfl) (by kernel_rfl) ?_
          refine split_at 78 (b := decide (cmpEn T[at_.toNat].entries[i] xlo < 0)) (by kernel_rfl) (by kernel_rfl) ?_ ?_
          · intro hb5
            replace hb5 := of_decide_eq_true hb5
            refine go mixed 2000 [10] 1 (St.mk Rg.no [kCd (bitL 16 48111), KI.block 1, kCd (bitL 11 2031), kLp (bitL 8 239), KI.block 0, kCd (bitL 5 31)] [(10, vL false)] [LB.mk [cS (some a_1) T.length c0, cI root, SC.v (Value.map (some m)), cI s.snd] 89]) (by kernel_rfl) (by kernel_rfl) (by kernel_rfl) ?_
            refine ret_ok (vs := [vL false]) (by kernel_rfl) ?_
            intro L w1 hs
            exact ⟨false, (s.1 ++ [at_], s.2), rfl, fin_ptr hs hag rfl rfl hgS, by rw [chk_no hlt (fun hc => by have := List.all_eq_true.1 hc.2.2 _ (List.getElem_mem (show i < T[at_.toNat].entries.length by omega)); simp only [okLo, okHi, Bool.and_eq_true, Bool.or_eq_true, Bool.not_eq_true', Bool.not_eq_false', Bool.and_eq_false_imp, Bool.or_eq_false_iff, decide_eq_true_eq, decide_eq_false_iff_not, beq_iff_eq, bne_iff_ne, Bool.false_eq_true, Bool.true_eq_false, ne_eq, true_iff, false_iff, iff_true, iff_false, true_and, and_true] at this; omega)]; rfl⟩
          intro hb5
          replace hb5 := of_decide_eq_false hb5
          refine go mixed 2000 [0, 2, 3, 4, 11, 62, 63, 64, 78, 81, 82, 84] 2 (St.mk (Rg.dr (bitL 14 7151) (bitL 22 131071) 5 12) [kCd (bitL 14 15343), KI.block 1, kCd (bitL 11 2031), kLp (bitL 8 239), KI.block 0, kCd (bitL 5 31)] [(0, vR 0 0), (2, vI dp), (3, vP alo), (4, vP ahi), (11, vR 1 0), (62, vS (some a_2) T[at_.toNat].entries.length centries_el2), (63, vI (↑T[at_.toNat].entries.length : Int)), (64, vI (↑i : Int)), (78, vL false), (81, vL true), (82, SV.agg [cI T[at_.toNat].entries[i].key.kind, cI T[at_.toNat].entries[i].key.n, cF bkey_f_el3, cS Akey_t_el3 T[at_.toNat].entries[i].key.t.length ckey_t_el3, cI T[at_.toNat].entries[i].id]), (84, vP ahi)] [LB.mk [cS (some a_1) T.length c0, cI root, SC.v (Value.map (some m)), cI s.snd] 89, LB.mk [SC.bo T[at_.toNat].leaf, cS (some a_2) T[at_.toNat].entries.length centries_el2, cS Akids_el2 T[at_.toNat].kids.length ckids_el2] 96]) (by kernel_rfl) (by kernel_rfl) (by kernel_rfl) ?_
          refine load_aggB true (by kernel_rfl : atB _ _ _ true = some (Op.load 101 (tmpO 84), 101, some 85, Rg.dr (bitL 14 7151) (bitL 22 262143) 4 12)) (n := 5) (by kernel_rfl) rfl ?_
          intro L w1 hs
          refine ⟨[.v (.int .i64 xhi.key.kind), .v (.int .i64 xhi.key.n), .v (.float .f64 bhi), .v (.slice Bhi xhi.key.t.length dhi), .v (.int .i64 xhi.id)], rfl, cells_at0 (cellsH_ext (hs.old 0 rfl) hclhi) rfl, ?_⟩
          clear hs
          refine go mixed 2000 [0, 2, 3, 4, 11, 62, 63, 64, 78, 81, 82, 85] 2 (St.mk (Rg.dr (bitL 14 7151) (bitL 22 262143) 4 12) [kCd (bitL 14 15343), KI.block 1, kCd (bitL 11 2031), kLp (bitL 8 239), KI.block 0, kCd (bitL 5 31)] [(0, vR 0 0), (2, vI dp), (3, vP alo), (4, vP ahi), (11, vR 1 0), (62, vS (some a_2) T[at_.toNat].entries.length centries_el2), (63, vI (↑T[at_.toNat].entries.length : Int)), (64, vI (↑i : Int)), (78, vL false), (81, vL true), (82, SV.agg [cI T[at_.toNat].entries[i].key.kind, cI T[at_.toNat].entries[i].key.n, cF bkey_f_el3, cS Akey_t_el3 T[at_.toNat].entries[i].key.t.length ckey_t_el3, cI T[at_.toNat].entries[i].id]), (85, SV.agg [cI xhi.key.kind, cI xhi.key.n, cF bhi, cS Bhi xhi.key.t.length dhi, cI xhi.id])] [LB.mk [cS (some a_1) T.length c0, cI root, SC.v (Value.map (some m)), cI s.snd] 89, LB.mk [SC.bo T[at_.toNat].leaf, cS (some a_2) T[at_.toNat].entries.length centries_el2, cS Akids_el2 T[at_.toNat].kids.length ckids_el2] 96]) (by kernel_rfl) (by kernel_rfl) (by kernel_rfl) ?_
          refine call_pure true (by kernel_rfl : atC _ _ _ true = some (100, [SV.agg [cI T[at_.toNat].entries[i].key.kind, cI T[at_.toNat].entries[i].key.n, cF bkey_f_el3, cS Akey_t_el3 T[at_.toNat].entries[i].key.t.length ckey_t_el3, cI T[at_.toNat].entries[i].id], SV.agg [cI xhi.key.kind, cI xhi.key.n, cF bhi, cS Bhi xhi.key.t.length dhi, cI xhi.id]], some 86, Rg.dr (bitL 14 7151) (bitL 22 524287) 3 12)) (by kernel_rfl) (.one (.v (Value.int IntKind.i64 (cmpEn T[at_.toNat].entries[i] xhi)))) (fun L w1 hs => (Go.Proofs.Ytgleoebogikooaa.Dk.iCmpEn_ok (T[at_.toNat].entries[i]) ([Value.int IntKind.i64 T[at_.toNat].entries[i].key.kind, Value.int IntKind.i64 T[at_.toNat].entries[i].key.n, Value.float FloatKind.f64 bkey_f_el3, Value.slice Akey_t_el3 T[at_.toNat].entries[i].key.t.length ckey_t_el3, Value.int IntKind.i64 T[at_.toNat].entries[i].id]) (xhi) ([Value.int IntKind.i64 xhi.key.kind, Value.int IntKind.i64 xhi.key.n, Value.float FloatKind.f64 bhi, Value.slice Bhi xhi.key.t.length dhi, Value.int IntKind.i64 xhi.id]) w1 (Go.Proofs.Ytgleoebogikooaa.Dk.kEn_mk (by assumption) hr2_el3 (rdRow_ext (hs.old 0 rfl) hr3_el3)) (Go.Proofs.Ytgleoebogikooaa.Dk.kEn_mk (by assumption) hbfhi (rdRow_ext (hs.old 0 rfl) hbrhi)) (by exact sd_3 _ _) (by assumption))) ?_
          refine go mixed 2000 [0, 2, 3, 4, 11, 62, 63, 64, 89] 2 (St.mk Rg.no [kCd (bitL 14 15343), KI.block 1, kCd (bitL 11 2031), kLp (bitL 8 239), KI.block 0, kCd (bitL 5 31)] [(0, vR 0 0), (2, vI dp), (3, vP alo), (4, vP ahi), (11, vR 1 0), (62, vS (some a_2) T[at_.toNat].entries.length centries_el2), (63, vI (↑T[at_.toNat].entries.length : Int)), (64, vI (↑i : Int)), (89, vB (decide (cmpEn T[at_.toNat].entries[i] xhi ≥ 0)))] [LB.mk [cS (some a_1) T.length c0, cI root, SC.v (Value.map (some m)), cI s.snd] 89, LB.mk [SC.bo T[at_.toNat].leaf, cS (some a_2) T[at_.toNat].entries.length centries_el2, cS Akids_el2 T[at_.toNat].kids.length ckids_el2] 96]) (by kernel_rfl) (by kernel_rfl) (by kernel_rfl) ?_
          refine split_at 89 (b := decide (cmpEn T[at_.toNat].entries[i] xhi ≥ 0)) (by kernel_rfl) (by kernel_rfl) ?_ ?_
          · intro hb6
            replace hb6 := of_decide_eq_true hb6
            refine go mixed 2000 [10] 1 (St.mk Rg.no [kCd (bitL 16 48111), KI.block 1, kCd (bitL 11 2031), kLp (bitL 8 239), KI.block 0, kCd (bitL 5 31)] [(10, vL false)] [LB.mk [cS (some a_1) T.length c0, cI root, SC.v (Value.map (some m)), cI s.snd] 89]) (by kernel_rfl) (by kernel_rfl) (by kernel_rfl) ?_
            refine ret_ok (vs := [vL false]) (by kernel_rfl) ?_
            intro L w1 hs
            exact ⟨false, (s.1 ++ [at_], s.2), rfl, fin_ptr hs hag rfl rfl hgS, by rw [chk_no hlt (fun hc => by have := List.all_eq_true.1 hc.2.2 _ (List.getElem_mem (show i < T[at_.toNat].entries.length by omega)); simp only [okLo, okHi, Bool.and_eq_true, Bool.or_eq_true, Bool.not_eq_true', Bool.not_eq_false', Bool.and_eq_false_imp, Bool.or_eq_false_iff, decide_eq_true_eq, decide_eq_false_iff_not, beq_iff_eq, bne_iff_ne, Bool.false_eq_true, Bool.true_eq_false, ne_eq, true_iff, false_iff, iff_true, iff_false, true_and, and_true] at this; omega)]; rfl⟩
          · intro hb6
            replace hb6 := of_decide_eq_false hb6
            refine go mixed 2000 [0, 2, 3, 4, 11, 62, 63, 64] 2 (St.mk Rg.no [kLp (bitL 8 239), KI.block 0, kCd (bitL 5 31)] [(0, vR 0 0), (2, vI dp), (3, vP alo), (4, vP ahi), (11, vR 1 0), (62, vS (some a_2) T[at_.toNat].entries.length centries_el2), (63, vI (↑T[at_.toNat].entries.length : Int)), (64, vI (IntKind.i64.wrap ((↑i : Int) + 1)))] [LB.mk [cS (some a_1) T.length c0, cI root, SC.v (Value.map (some m)), cI s.snd] 89, LB.mk [SC.bo T[at_.toNat].leaf, cS (some a_2) T[at_.toNat].entries.length centries_el2, cS Akids_el2 T[at_.toNat].kids.length ckids_el2] 96]) (by kernel_rfl) (by kernel_rfl) (by kernel_rfl) ?_
            rw [wrap_succ (by omega)]; exact ih (i + 1) ⟨by omega, fun j h hj => (by rcases Nat.lt_succ_iff_lt_or_eq.1 hj with h1 | h1; exact hI.2 j h h1; subst h1; simp only [okLo, okHi, Bool.and_eq_true, Bool.or_eq_true, Bool.not_eq_true', Bool.not_eq_false', Bool.and_eq_false_imp, Bool.or_eq_false_iff, decide_eq_true_eq, decide_eq_false_iff_not, beq_iff_eq, bne_iff_ne, Bool.false_eq_true, Bool.true_eq_false, ne_eq, true_iff, false_iff, iff_true, iff_false, true_and, and_true]; omega)⟩ (by omega)
    have hall : T[at_.toNat].entries.all (fun e => okLo lo e && okHi hi e) = true := all_ok hge2 hI.2
    have hcd : (0 ≤ at_ ∧ at_ ∉ s.1) ∧ nodeOk (T[at_.toNat]'hlt) = true ∧ T[at_.toNat].entries.all (fun e => okLo lo e && okHi hi e) = true := ⟨⟨hin.1, hns⟩, hno, hall⟩
    clear ih hI
    cases hlf : T[at_.toNat].leaf with
    | true =>
      refine go mixed 2000 [0, 2, 3, 4, 11, 62, 63, 64, 65] 2 (St.mk Rg.no [kCd (bitL 10 495), kCd (bitL 10 1007), kLp (bitL 8 239), KI.block 0, kCd (bitL 5 31)] [(0, vR 0 0), (2, vI dp), (3, SV.one (SC.v (Value.pointer plo))), (4, SV.one (SC.v (Value.pointer phi))), (11, vR 1 0), (62, vS Aentries_el2 T[at_.toNat].entries.length centries_el2), (63, vI (↑T[at_.toNat].entries.length : Int)), (64, vI (↑i : Int)), (65, vB (decide ((↑i : Int) < (↑T[at_.toNat].entries.length : Int))))] [LB.mk [cS (some a_1) T.length c0, cI root, SC.v (Value.map (some m)), cI s.snd] 89, LB.mk [SC.bo true, cS Aentries_el2 T[at_.toNat].entries.length centries_el2, cS Akids_el2 T[at_.toNat].kids.length ckids_el2] 96]) (by kernel_rfl) (by kernel_rfl) (by kernel_rfl) ?_
      refine split_at 65 (b := decide ((↑i : Int) < (↑T[at_.toNat].entries.length : Int))) (by kernel_rfl) (by kernel_rfl) ?_ ?_
      · intro hb4
        replace hb4 := of_decide_eq_true hb4
        (exfalso; omega)
      · intro hb4
        replace hb4 := of_decide_eq_false hb4
        refine go mixed 2000 [0, 2, 3, 4, 11, 92] 2 (St.mk Rg.no [kCd (bitL 7 95), kCd (bitL 6 63)] [(0, vR 0 0), (2, vI dp), (3, SV.one (SC.v (Value.pointer plo))), (4, SV.one (SC.v (Value.pointer phi))), (11, vR 1 0), (92, vB true)] [LB.mk [cS (some a_1) T.length c0, cI root, SC.v (Value.map (some m)), cI s.snd] 89, LB.mk [SC.bo true, cS Aentries_el2 T[at_.toNat].entries.length centries_el2, cS Akids_el2 T[at_.toNat].kids.length ckids_el2] 96]) (by kernel_rfl) (by kernel_rfl) (by kernel_rfl) ?_
        refine lit_at 92 (b := true) (by kernel_rfl) ?_
        refine go mixed 2000 [0, 2, 97] 1 (St.mk Rg.no [kCd (bitL 10 607), kCd (bitL 9 351), kCd (bitL 6 63)] [(0, vR 0 0), (2, vI dp), (97, vB (s.snd == 0))] [LB.mk [cS (some a_1) T.length c0, cI root, SC.v (Value.map (some m)), cI s.snd] 89]) (by kernel_rfl) (by kernel_rfl) (by kernel_rfl) ?_
        refine split_at 97 (b := s.snd == 0) (by kernel_rfl) (by kernel_rfl) ?_ ?_
        · intro hb5
          replace hb5 := beq_iff_eq.1 hb5
          refine go mixed 2000 [10] 1 (St.mk Rg.no [kCd (bitL 10 863), kCd (bitL 6 63)] [(10, vB (dp == dp))] [LB.mk [cS (some a_1) T.length c0, cI root, SC.v (Value.map (some m)), cI dp] 89]) (by kernel_rfl) (by kernel_rfl) (by kernel_rfl) ?_
          refine ret_ok (vs := [vB (dp == dp)]) (by kernel_rfl) ?_
          intro L w1 hs
          exact ⟨_, (s.1 ++ [at_], dp), rfl, fin_ptr hs hag rfl rfl hgS, chk_leaf hlt hcd hlf (if_pos (by omega)) rfl⟩
        · intro hb5
          replace hb5 := beq_eq_false_iff_ne.1 hb5
          refine go mixed 2000 [10] 1 (St.mk Rg.no [kCd (bitL 10 863), kCd (bitL 6 63)] [(10, vB (s.snd == dp))] [LB.mk [cS (some a_1) T.length c0, cI root, SC.v (Value.map (some m)), cI s.snd] 89]) (by kernel_rfl) (by kernel_rfl) (by kernel_rfl) ?_
          refine ret_ok (vs := [vB (s.snd == dp)]) (by kernel_rfl) ?_
          intro L w1 hs
          exact ⟨_, (s.1 ++ [at_], s.2), rfl, fin_ptr hs hag rfl rfl hgS, chk_leaf hlt hcd hlf (if_neg (by omega)) rfl⟩
    | false =>
      refine go mixed 2000 [0, 2, 3, 4, 11, 62, 63, 64, 65] 2 (St.mk Rg.no [kCd (bitL 10 495), kCd (bitL 10 1007), kLp (bitL 8 239), KI.block 0, kCd (bitL 5 31)] [(0, vR 0 0), (2, vI dp), (3, SV.one (SC.v (Value.pointer plo))), (4, SV.one (SC.v (Value.pointer phi))), (11, vR 1 0), (62, vS Aentries_el2 T[at_.toNat].entries.length centries_el2), (63, vI (↑T[at_.toNat].entries.length : Int)), (64, vI (↑i : Int)), (65, vB (decide ((↑i : Int) < (↑T[at_.toNat].entries.length : Int))))] [LB.mk [cS (some a_1) T.length c0, cI root, SC.v (Value.map (some m)), cI s.snd] 89, LB.mk [SC.bo false, cS Aentries_el2 T[at_.toNat].entries.length centries_el2, cS Akids_el2 T[at_.toNat].kids.length ckids_el2] 96]) (by kernel_rfl) (by kernel_rfl) (by kernel_rfl) ?_
      refine split_at 65 (b := decide ((↑i : Int) < (↑T[at_.toNat].entries.length : Int))) (by kernel_rfl) (by kernel_rfl) ?_ ?_
      · intro hb4
        replace hb4 := of_decide_eq_true hb4
        (exfalso; omega)
      intro hb4
      replace hb4 := of_decide_eq_false hb4
      refine go mixed 2000 [0, 2, 3, 4, 11, 92] 2 (St.mk Rg.no [kCd (bitL 7 95), kCd (bitL 6 63)] [(0, vR 0 0), (2, vI dp), (3, SV.one (SC.v (Value.pointer plo))), (4, SV.one (SC.v (Value.pointer phi))), (11, vR 1 0), (92, vB false)] [LB.mk [cS (some a_1) T.length c0, cI root, SC.v (Value.map (some m)), cI s.snd] 89, LB.mk [SC.bo false, cS Aentries_el2 T[at_.toNat].entries.length centries_el2, cS Akids_el2 T[at_.toNat].kids.length ckids_el2] 96]) (by kernel_rfl) (by kernel_rfl) (by kernel_rfl) ?_
      refine lit_at 92 (b := false) (by kernel_rfl) ?_
      refine go mixed 2000 [0, 2, 3, 4, 11, 109, 110, 111] 2 (St.mk Rg.no [kLp (bitL 10 959), KI.block 2, kCd (bitL 7 127)] [(0, vR 0 0), (2, vI dp), (3, SV.one (SC.v (Value.pointer plo))), (4, SV.one (SC.v (Value.pointer phi))), (11, vR 1 0), (109, vS Akids_el2 T[at_.toNat].kids.length ckids_el2), (110, vI (↑T[at_.toNat].kids.length : Int)), (111, vI 0)] [LB.mk [cS (some a_1) T.length c0, cI root, SC.v (Value.map (some m)), cI s.snd] 89, LB.mk [SC.bo false, cS Aentries_el2 T[at_.toNat].entries.length centries_el2, cS Akids_el2 T[at_.toNat].kids.length ckids_el2] 96]) (by kernel_rfl) (by kernel_rfl) (by kernel_rfl) ?_
      obtain ⟨hne, hkl⟩ := nodeOk_kids hno hlf
      refine loop_at (ι := Nat × CS) (fun q => [(111, .one (.v (.int .i64 q.1)))]) (fun q => [(0, ⟨[.v (.slice (some a_1) T.length c0), .v (.int .i64 root), .v (.map (some m)), .v (.int .i64 q.2.2)], 89⟩)]) (fun q => [oldA w0, oldX w (fun b => S b ∨ b < w0.heap.size), mapA m q.2.1]) (fun q => q.1 ≤ T[at_.toNat].kids.length ∧ goodS T q.2.1 ∧ s.1.length + 1 ≤ q.2.1.length ∧ kidsF (fun s k lo hi => chk T f s k (dp + 1) lo hi) T[at_.toNat] lo hi T[at_.toNat].kids 0 (s.1 ++ [at_], s.2) = kidsF (fun s k lo hi => chk T f s k (dp + 1) lo hi) T[at_.toNat] lo hi (T[at_.toNat].kids.drop q.1) q.1 q.2) (fun q => T[at_.toNat].kids.length - q.1) (0, (s.1 ++ [at_], s.2)) rfl rfl rfl ⟨Nat.zero_le _, goodS_add hg hin.1 (by omega) hns, by simp, rfl⟩ ?_
      rintro ⟨i, r⟩ ⟨hi1, hg1, hl1, hk1⟩ ih
      simp only at hi1 hg1 hl1 hk1 ih ⊢
      have hkb := (hsz2 _ (List.getElem_mem hlt)).2
      rcases Nat.lt_or_ge i T[at_.toNat].kids.length with hik | hik
      · have hdrop := List.drop_eq_getElem_cons hik
        have nf_2 : IntKind.i64.wrap (dp + 1) = dp + 1 := by rw [IntKind.wrap_i64]; omega
        have hrE := hr1_el2
        refine go mixed 2000 [0, 2, 3, 4, 11, 109, 110, 111, 112] 2 (St.mk Rg.no [kCd (bitL 12 1983), kCd (bitL 12 4031), kLp (bitL 10 959), KI.block 2, kCd (bitL 7 127)] [(0, vR 0 0), (2, vI dp), (3, SV.one (SC.v (Value.pointer plo))), (4, SV.one (SC.v (Value.pointer phi))), (11, vR 1 0), (109, vS Akids_el2 T[at_.toNat].kids.length ckids_el2), (110, vI (↑T[at_.toNat].kids.length : Int)), (111, vI (↑i : Int)), (112, vB (decide ((↑i : Int) < (↑T[at_.toNat].kids.length : Int))))] [LB.mk [cS (some a_1) T.length c0, cI root, SC.v (Value.map (some m)), cI r.snd] 89, LB.mk [SC.bo false, cS Aentries_el2 T[at_.toNat].entries.length centries_el2, cS Akids_el2 T[at_.toNat].kids.length ckids_el2] 96]) (by kernel_rfl) (by kernel_rfl) (by kernel_rfl) ?_
        refine split_at 112 (b := decide ((↑i : Int) < (↑T[at_.toNat].kids.length : Int))) (by kernel_rfl) (by kernel_rfl) ?_ ?_
        rotate_left
        · intro hb5
          replace hb5 := of_decide_eq_false hb5
          (exfalso; omega)
        intro hb5
        replace hb5 := of_decide_eq_true hb5
        refine go mixed 2000 [0, 2, 3, 4, 11, 109, 110, 111, 113] 2 (St.mk (Rg.sq (bitL 15 12223) 1) [kCd (bitL 15 28607), KI.block 3, kCd (bitL 13 8127), kLp (bitL 10 959), KI.block 2, kCd (bitL 7 127)] [(0, vR 0 0), (2, vI dp), (3, SV.one (SC.v (Value.pointer plo))), (4, SV.one (SC.v (Value.pointer phi))), (11, vR 1 0), (109, vS Akids_el2 T[at_.toNat].kids.length ckids_el2), (110, vI (↑T[at_.toNat].kids.length : Int)), (111, vI (↑i : Int)), (113, vI (↑i : Int))] [LB.mk [cS (some a_1) T.length c0, cI root, SC.v (Value.map (some m)), cI r.snd] 89, LB.mk [SC.bo false, cS Aentries_el2 T[at_.toNat].entries.length centries_el2, cS Akids_el2 T[at_.toNat].kids.length ckids_el2] 96]) (by kernel_rfl) (by kernel_rfl) (by kernel_rfl) ?_
        refine index_at 1 (by kernel_rfl : atP _ _ _ 1 false = some (Op.indexAddr 44 (tmpO 109) (tmpO 111), 0, some 114, Rg.sq (bitL 15 12223) 2)) (ni := i) (sz := 1) (by kernel_rfl) rfl rfl rfl (by assumption) (fun L w1 hs => rd_some (i := i) (rdRow_ext (hs.old 0 rfl) hr2_el2) (by assumption)) ?_
        intro a_2 ha_2
        cases ha_2
        refine go mixed 2000 [0, 2, 3, 4, 11, 109, 110, 111, 113, 114] 2 (St.mk (Rg.sq (bitL 15 12223) 2) [kCd (bitL 15 28607), KI.block 3, kCd (bitL 13 8127), kLp (bitL 10 959), KI.block 2, kCd (bitL 7 127)] [(0, vR 0 0), (2, vI dp), (3, SV.one (SC.v (Value.pointer plo))), (4, SV.one (SC.v (Value.pointer phi))), (11, vR 1 0), (109, vS (some a_2) T[at_.toNat].kids.length ckids_el2), (110, vI (↑T[at_.toNat].kids.length : Int)), (111, vI (↑i : Int)), (113, vI (↑i : Int)), (114, vP (a_2.add (i * 1)))] [LB.mk [cS (some a_1) T.length c0, cI root, SC.v (Value.map (some m)), cI r.snd] 89, LB.mk [SC.bo false, cS Aentries_el2 T[at_.toNat].entries.length centries_el2, cS (some a_2) T[at_.toNat].kids.length ckids_el2] 96]) (by kernel_rfl) (by kernel_rfl) (by kernel_rfl) ?_
        refine load_one 2 (by kernel_rfl : atP _ _ _ 2 true = some (Op.load 3 (tmpO 114), 3, some 115, Rg.sq (bitL 15 12223) 3)) (n := 1) (by kernel_rfl) rfl ?_
        intro L w1 hs
        refine ⟨.v (Value.int IntKind.i64 ((T[at_.toNat].kids)[i]'(by assumption))), rd_sc (rdRow_ext (hs.old 0 rfl) hr2_el2) (by assumption), ?_⟩
        clear hs
        refine go mixed 2000 [0, 2, 3, 4, 11, 14, 15, 16, 17, 109, 110, 111, 119] 2 (St.mk Rg.no [kCd (bitL 18 192447), kCd (bitL 17 126911), KI.block 3, kCd (bitL 13 8127), kLp (bitL 10 959), KI.block 2, kCd (bitL 7 127)] [(0, vR 0 0), (2, vI dp), (3, SV.one (SC.v (Value.pointer plo))), (4, SV.one (SC.v (Value.pointer phi))), (11, vR 1 0), (14, vI (↑i : Int)), (15, vI T[at_.toNat].kids[i]), (16, SV.one (SC.v (Value.pointer plo))), (17, SV.one (SC.v (Value.pointer phi))), (109, vS (some a_2) T[at_.toNat].kids.length ckids_el2), (110, vI (↑T[at_.toNat].kids.length : Int)), (111, vI (↑i : Int)), (119, vB (decide ((↑i : Int) > 0)))] [LB.mk [cS (some a_1) T.length c0, cI root, SC.v (Value.map (some m)), cI r.snd] 89, LB.mk [SC.bo false, cS Aentries_el2 T[at_.toNat].entries.length centries_el2, cS (some a_2) T[at_.toNat].kids.length ckids_el2] 96]) (by kernel_rfl) (by kernel_rfl) (by kernel_rfl) ?_
        rcases Nat.eq_zero_or_pos i with h00 | hpos
        · have hil : i < T[at_.toNat].entries.length := by omega
          have hLO : (if 0 < i then T[at_.toNat].entries[i - 1]? else lo) = lo := if_neg (by omega)
          have hHI : (if i < T[at_.toNat].entries.length then T[at_.toNat].entries[i]? else hi) = (some T[at_.toNat].entries[i]) := by rw [if_pos hil, List.getElem?_eq_getElem hil]
          refine go mixed 2000 [0, 2, 3, 4, 11, 14, 15, 16, 17, 109, 110, 111, 119] 2 (St.mk Rg.no [kCd (bitL 18 192447), kCd (bitL 17 126911), KI.block 3, kCd (bitL 13 8127), kLp (bitL 10 959), KI.block 2, kCd (bitL 7 127)] [(0, vR 0 0), (2, vI dp), (3, SV.one (SC.v (Value.pointer plo))), (4, SV.one (SC.v (Value.pointer phi))), (11, vR 1 0), (14, vI (↑i : Int)), (15, vI T[at_.toNat].kids[i]), (16, SV.one (SC.v (Value.pointer plo))), (17, SV.one (SC.v (Value.pointer phi))), (109, vS (some a_2) T[at_.toNat].kids.length ckids_el2), (110, vI (↑T[at_.toNat].kids.length : Int)), (111, vI (↑i : Int)), (119, vB (decide ((↑i : Int) > 0)))] [LB.mk [cS (some a_1) T.length c0, cI root, SC.v (Value.map (some m)), cI r.snd] 89, LB.mk [SC.bo false, cS Aentries_el2 T[at_.toNat].entries.length centries_el2, cS (some a_2) T[at_.toNat].kids.length ckids_el2] 96]) (by kernel_rfl) (by kernel_rfl) (by kernel_rfl) ?_
          refine split_at 119 (b := decide ((↑i : Int) > 0)) (by kernel_rfl) (by kernel_rfl) ?_ ?_
          · intro hb6
            replace hb6 := of_decide_eq_true hb6
            (exfalso; omega)
          intro hb6
          replace hb6 := of_decide_eq_false hb6
          refine go mixed 2000 [0, 2, 3, 4, 11, 14, 15, 16, 17, 109, 110, 111, 129] 2 (St.mk Rg.no [kCd (bitL 19 389055), kCd (bitL 18 257983), KI.block 3, kCd (bitL 13 8127), kLp (bitL 10 959), KI.block 2, kCd (bitL 7 127)] [(0, vR 0 0), (2, vI dp), (3, SV.one (SC.v (Value.pointer plo))), (4, SV.one (SC.v (Value.pointer phi))), (11, vR 1 0), (14, vI (↑i : Int)), (15, vI T[at_.toNat].kids[i]), (16, SV.one (SC.v (Value.pointer plo))), (17, SV.one (SC.v (Value.pointer phi))), (109, vS (some a_2) T[at_.toNat].kids.length ckids_el2), (110, vI (↑T[at_.toNat].kids.length : Int)), (111, vI (↑i : Int)), (129, vB (decide ((↑i : Int) < (↑T[at_.toNat].entries.length : Int))))] [LB.mk [cS (some a_1) T.length c0, cI root, SC.v (Value.map (some m)), cI r.snd] 89, LB.mk [SC.bo false, cS Aentries_el2 T[at_.toNat].entries.length centries_el2, cS (some a_2) T[at_.toNat].kids.length ckids_el2] 96]) (by kernel_rfl) (by kernel_rfl) (by kernel_rfl) ?_
          refine split_at 129 (b := decide ((↑i : Int) < (↑T[at_.toNat].entries.length : Int))) (by kernel_rfl) (by kernel_rfl) ?_ ?_
          rotate_left
          · intro hb7
            replace hb7 := of_decide_eq_false hb7
            (exfalso; omega)
          intro hb7
          replace hb7 := of_decide_eq_true hb7
          refine go mixed 2000 [0, 2, 3, 4, 11, 15, 16, 109, 110, 111, 131, 132] 2 (St.mk (Rg.sq (bitL 20 389055) 3) [kCd (bitL 18 257983), KI.block 3, kCd (bitL 13 8127), kLp (bitL 10 959), KI.block 2, kCd (bitL 7 127)] [(0, vR 0 0), (2, vI dp), (3, SV.one (SC.v (Value.pointer plo))), (4, SV.one (SC.v (Value.pointer phi))), (11, vR 1 0), (15, vI T[at_.toNat].kids[i]), (16, SV.one (SC.v (Value.pointer plo))), (109, vS (some a_2) T[at_.toNat].kids.length ckids_el2), (110, vI (↑T[at_.toNat].kids.length : Int)), (111, vI (↑i : Int)), (131, vS Aentries_el2 T[at_.toNat].entries.length centries_el2), (132, vI (↑i : Int))] [LB.mk [cS (some a_1) T.length c0, cI root, SC.v (Value.map (some m)), cI r.snd] 89, LB.mk [SC.bo false, cS Aentries_el2 T[at_.toNat].entries.length centries_el2, cS (some a_2) T[at_.toNat].kids.length ckids_el2] 96]) (by kernel_rfl) (by kernel_rfl) (by kernel_rfl) ?_
          refine index_at 3 (by kernel_rfl : atP _ _ _ 3 false = some (Op.indexAddr 34 (tmpO 131) (tmpO 132), 0, some 133, Rg.sq (bitL 20 389055) 4)) (ni := i) (sz := 5) (by kernel_rfl) rfl rfl rfl (by assumption) (fun L w1 hs => rd_some (i := i) (rdRow_ext (hs.old 0 rfl) hr1_el2) (by assumption)) ?_
          intro a_3 ha_3
          cases ha_3
          refine go mixed 2000 [0, 2, 3, 4, 11, 109, 110, 111, 134, 135, 137, 138, 139] 2 (St.mk (Rg.sq (bitL 19 257983) 6) [kCd (bitL 19 520127), KI.block 3, kCd (bitL 13 8127), kLp (bitL 10 959), KI.block 2, kCd (bitL 7 127)] [(0, vR 0 0), (2, vI dp), (3, SV.one (SC.v (Value.pointer plo))), (4, SV.one (SC.v (Value.pointer phi))), (11, vR 1 0), (109, vS (some a_2) T[at_.toNat].kids.length ckids_el2), (110, vI (↑T[at_.toNat].kids.length : Int)), (111, vI (↑i : Int)), (134, vR 0 0), (135, vI T[at_.toNat].kids[i]), (137, vI (IntKind.i64.wrap (dp + 1))), (138, SV.one (SC.v (Value.pointer plo))), (139, vP (a_3.add (i * 5)))] [LB.mk [cS (some a_1) T.length c0, cI root, SC.v (Value.map (some m)), cI r.snd] 89, LB.mk [SC.bo false, cS (some a_3) T[at_.toNat].entries.length centries_el2, cS (some a_2) T[at_.toNat].kids.length ckids_el2] 96]) (by kernel_rfl) (by kernel_rfl) (by kernel_rfl) ?_
          simp only [fl_ne_self, fl_eq_self, fl_eq0, fl_ne0, fl_gt0, fl_lt0, nf_1, nf_2]
          refine h_bring 2 rfl ?_
          refine call_lb (A := [mapA m r.1]) (vals := [.slice (some a_1) T.length c0, .int .i64 root, .map (some m), .int .i64 r.2]) (by kernel_rfl : atC _ _ _ false = some (56, [vR 0 0, vI T[at_.toNat].kids[i], vI (dp + 1), SV.one (SC.v (Value.pointer plo)), vP (a_3.add (i * 5))], some 140, Rg.sq (bitL 19 257983) 7)) (by kernel_rfl) rfl rfl (fun L w1 S1 hs hA hS1 hT2 _ => (ihf r _ (dp + 1) lo (some T[at_.toNat].entries[i]) plo _ _ S1 w1 hA hS1 (Nat.le_trans h0 hs.1.1.size) (old_apart hT2 0 rfl).1 (old_apart hT2 0 rfl).2 hlo (ptr_el hrE hil (sd_3 _ hil)) hg1 (by omega) (by omega)).mono ?_)
          rintro e w2 ⟨b2, r2, rfl, hm, hsd⟩
          refine ⟨.one (.bo b2), [.v (.slice (some a_1) T.length c0), .v (.int .i64 root), .v (.map (some m)), .v (.int .i64 r2.2)], _, _, rfl, rfl, hm, ?_⟩
          clear hm hs hA hS1 hT2
          refine h_bring 1 rfl ?_
          refine h_bring 2 rfl ?_
          refine h_bring 1 rfl ?_
          cases hc : chk T f r T[at_.toNat].kids[i] (dp + 1) lo (some T[at_.toNat].entries[i]) with
          | none =>
            rw [hc] at hsd
            obtain rfl : b2 = false := hsd
            refine go mixed 2000 [0, 2, 3, 4, 11, 109, 110, 111, 141] 2 (St.mk Rg.no [kCd (bitL 19 520127), KI.block 3, kCd (bitL 13 8127), kLp (bitL 10 959), KI.block 2, kCd (bitL 7 127)] [(0, vR 0 0), (2, vI dp), (3, SV.one (SC.v (Value.pointer plo))), (4, SV.one (SC.v (Value.pointer phi))), (11, vR 1 0), (109, vS (some a_2) T[at_.toNat].kids.length ckids_el2), (110, vI (↑T[at_.toNat].kids.length : Int)), (111, vI (↑i : Int)), (141, vB true)] [LB.mk [cS (some a_1) T.length c0, cI root, SC.v (Value.map (some m)), cI r2.snd] 89, LB.mk [SC.bo false, cS (some a_3) T[at_.toNat].entries.length centries_el2, cS (some a_2) T[at_.toNat].kids.length ckids_el2] 96]) (by kernel_rfl) (by kernel_rfl) (by kernel_rfl) ?_
            refine lit_at 141 (b := true) (by kernel_rfl) ?_
            refine go mixed 2000 [10] 1 (St.mk Rg.no [kCd (bitL 21 1568703), KI.block 3, kCd (bitL 13 8127), kLp (bitL 10 959), KI.block 2, kCd (bitL 7 127)] [(10, vL false)] [LB.mk [cS (some a_1) T.length c0, cI root, SC.v (Value.map (some m)), cI r2.snd] 89]) (by kernel_rfl) (by kernel_rfl) (by kernel_rfl) ?_
            simp only [fl_ne_self, fl_eq_self, fl_eq0, fl_ne0, fl_gt0, fl_lt0, nf_1, nf_2]
            refine ret_ok (vs := [vL false]) (by kernel_rfl) ?_
            intro L w1 hs
            exact ⟨false, r2, rfl, fin_ptr hs hag rfl rfl hgS, chk_kids hlt hcd hlf (by rw [hk1, hdrop]; simp only [kidsF]; rw [hLO, hHI, hc]; rfl)⟩
          | some x =>
            rw [hc] at hsd
            obtain ⟨rfl, rfl⟩ : b2 = true ∧ r2 = x := hsd
            obtain ⟨hg2, hl2⟩ := chk_inv f _ _ _ _ _ _ hc hg1
            refine go mixed 2000 [0, 2, 3, 4, 11, 109, 110, 111, 141] 2 (St.mk Rg.no [kCd (bitL 19 520127), KI.block 3, kCd (bitL 13 8127), kLp (bitL 10 959), KI.block 2, kCd (bitL 7 127)] [(0, vR 0 0), (2, vI dp), (3, SV.one (SC.v (Value.pointer plo))), (4, SV.one (SC.v (Value.pointer phi))), (11, vR 1 0), (109, vS (some a_2) T[at_.toNat].kids.length ckids_el2), (110, vI (↑T[at_.toNat].kids.length : Int)), (111, vI (↑i : Int)), (141, vB false)] [LB.mk [cS (some a_1) T.length c0, cI root, SC.v (Value.map (some m)), cI r2.snd] 89, LB.mk [SC.bo false, cS (some a_3) T[at_.toNat].entries.length centries_el2, cS (some a_2) T[at_.toNat].kids.length ckids_el2] 96]) (by kernel_rfl) (by kernel_rfl) (by kernel_rfl) ?_
            refine lit_at 141 (b := false) (by kernel_rfl) ?_
            refine go mixed 2000 [0, 2, 3, 4, 11, 109, 110, 111] 2 (St.mk Rg.no [kLp (bitL 10 959), KI.block 2, kCd (bitL 7 127)] [(0, vR 0 0), (2, vI dp), (3, SV.one (SC.v (Value.pointer plo))), (4, SV.one (SC.v (Value.pointer phi))), (11, vR 1 0), (109, vS (some a_2) T[at_.toNat].kids.length ckids_el2), (110, vI (↑T[at_.toNat].kids.length : Int)), (111, vI (IntKind.i64.wrap ((↑i : Int) + 1)))] [LB.mk [cS (some a_1) T.length c0, cI root, SC.v (Value.map (some m)), cI r2.snd] 89, LB.mk [SC.bo false, cS (some a_3) T[at_.toNat].entries.length centries_el2, cS (some a_2) T[at_.toNat].kids.length ckids_el2] 96]) (by kernel_rfl) (by kernel_rfl) (by kernel_rfl) ?_
            simp only [fl_ne_self, fl_eq_self, fl_eq0, fl_ne0, fl_gt0, fl_lt0, nf_1, nf_2]
            rw [wrap_succ (by omega)]; exact ih (i + 1, r2) ⟨by simp only; omega, hg2, by simp only; omega, by simp only; rw [hk1, hdrop]; simp only [kidsF]; rw [hLO, hHI, hc]⟩ (by simp only; omega)
        · have nf_3 : IntKind.i64.wrap ((i : Int) - 1) = ((i - 1 : Nat) : Int) := by rw [IntKind.wrap_i64]; omega
          have him : i - 1 < T[at_.toNat].entries.length := by omega
          rcases Nat.lt_or_ge i T[at_.toNat].entries.length with hil | hil
          · have hLO : (if 0 < i then T[at_.toNat].entries[i - 1]? else lo) = (some T[at_.toNat].entries[i - 1]) := by rw [if_pos hpos, List.getElem?_eq_getElem him]
            have hHI : (if i < T[at_.toNat].entries.length then T[at_.toNat].entries[i]? else hi) = (some T[at_.toNat].entries[i]) := by rw [if_pos hil, List.getElem?_eq_getElem hil]
            refine go mixed 2000 [0, 2, 3, 4, 11, 14, 15, 16, 17, 109, 110, 111, 119] 2 (St.mk Rg.no [kCd (bitL 18 192447), kCd (bitL 17 126911), KI.block 3, kCd (bitL 13 8127), kLp (bitL 10 959), KI.block 2, kCd (bitL 7 127)] [(0, vR 0 0), (2, vI dp), (3, SV.one (SC.v (Value.pointer plo))), (4, SV.one (SC.v (Value.pointer phi))), (11, vR 1 0), (14, vI (↑i : Int)), (15, vI T[at_.toNat].kids[i]), (16, SV.one (SC.v (Value.pointer plo))), (17, SV.one (SC.v (Value.pointer phi))), (109, vS (some a_2) T[at_.toNat].kids.length ckids_el2), (110, vI (↑T[at_.toNat].kids.length : Int)), (111, vI (↑i : Int)), (119, vB (decide ((↑i : Int) > 0)))] [LB.mk [cS (some a_1) T.length c0, cI root, SC.v (Value.map (some m)), cI r.snd] 89, LB.mk [SC.bo false, cS Aentries_el2 T[at_.toNat].entries.length centries_el2, cS (some a_2) T[at_.toNat].kids.length ckids_el2] 96]) (by kernel_rfl) (by kernel_rfl) (by kernel_rfl) ?_
            refine split_at 119 (b := decide ((↑i : Int) > 0)) (by kernel_rfl) (by kernel_rfl) ?_ ?_
            rotate_left
            · intro hb6
              replace hb6 := of_decide_eq_false hb6
              (exfalso; omega)
            intro hb6
            replace hb6 := of_decide_eq_true hb6
            refine go mixed 2000 [0, 2, 3, 4, 11, 14, 15, 17, 109, 110, 111, 121, 123] 2 (St.mk (Rg.sq (bitL 19 192447) 4) [kCd (bitL 17 126911), KI.block 3, kCd (bitL 13 8127), kLp (bitL 10 959), KI.block 2, kCd (bitL 7 127)] [(0, vR 0 0), (2, vI dp), (3, SV.one (SC.v (Value.pointer plo))), (4, SV.one (SC.v (Value.pointer phi))), (11, vR 1 0), (14, vI (↑i : Int)), (15, vI T[at_.toNat].kids[i]), (17, SV.one (SC.v (Value.pointer phi))), (109, vS (some a_2) T[at_.toNat].kids.length ckids_el2), (110, vI (↑T[at_.toNat].kids.length : Int)), (111, vI (↑i : Int)), (121, vS Aentries_el2 T[at_.toNat].entries.length centries_el2), (123, vI (IntKind.i64.wrap ((↑i : Int) - 1)))] [LB.mk [cS (some a_1) T.length c0, cI root, SC.v (Value.map (some m)), cI r.snd] 89, LB.mk [SC.bo false, cS Aentries_el2 T[at_.toNat].entries.length centries_el2, cS (some a_2) T[at_.toNat].kids.length ckids_el2] 96]) (by kernel_rfl) (by kernel_rfl) (by kernel_rfl) ?_
            simp only [fl_ne_self, fl_eq_self, fl_eq0, fl_ne0, fl_gt0, fl_lt0, nf_1, nf_2, nf_3]
            refine index_at 4 (by kernel_rfl : atP _ _ _ 4 false = some (Op.indexAddr 34 (tmpO 121) (tmpO 123), 0, some 124, Rg.sq (bitL 19 192447) 5)) (ni := i - 1) (sz := 5) (by kernel_rfl) rfl rfl rfl (by assumption) (fun L w1 hs => rd_some (i := i - 1) (rdRow_ext (hs.old 0 rfl) hr1_el2) (by assumption)) ?_
            intro a_3 ha_3
            cases ha_3
            refine go mixed 2000 [0, 2, 3, 4, 11, 14, 15, 16, 17, 109, 110, 111, 129] 2 (St.mk Rg.no [kCd (bitL 19 389055), kCd (bitL 18 257983), KI.block 3, kCd (bitL 13 8127), kLp (bitL 10 959), KI.block 2, kCd (bitL 7 127)] [(0, vR 0 0), (2, vI dp), (3, SV.one (SC.v (Value.pointer plo))), (4, SV.one (SC.v (Value.pointer phi))), (11, vR 1 0), (14, vI (↑i : Int)), (15, vI T[at_.toNat].kids[i]), (16, vP (a_3.add ((i - 1) * 5))), (17, SV.one (SC.v (Value.pointer phi))), (109, vS (some a_2) T[at_.toNat].kids.length ckids_el2), (110, vI (↑T[at_.toNat].kids.length : Int)), (111, vI (↑i : Int)), (129, vB (decide ((↑i : Int) < (↑T[at_.toNat].entries.length : Int))))] [LB.mk [cS (some a_1) T.length c0, cI root, SC.v (Value.map (some m)), cI r.snd] 89, LB.mk [SC.bo false, cS (some a_3) T[at_.toNat].entries.length centries_el2, cS (some a_2) T[at_.toNat].kids.length ckids_el2] 96]) (by kernel_rfl) (by kernel_rfl) (by kernel_rfl) ?_
            refine split_at 129 (b := decide ((↑i : Int) < (↑T[at_.toNat].entries.length : Int))) (by kernel_rfl) (by kernel_rfl) ?_ ?_
            rotate_left
            · intro hb7
              replace hb7 := of_decide_eq_false hb7
              (exfalso; omega)
            intro hb7
            replace hb7 := of_decide_eq_true hb7
            refine go mixed 2000 [0, 2, 3, 4, 11, 15, 16, 109, 110, 111, 131, 132] 2 (St.mk (Rg.sq (bitL 20 389055) 3) [kCd (bitL 18 257983), KI.block 3, kCd (bitL 13 8127), kLp (bitL 10 959), KI.block 2, kCd (bitL 7 127)] [(0, vR 0 0), (2, vI dp), (3, SV.one (SC.v (Value.pointer plo))), (4, SV.one (SC.v (Value.pointer phi))), (11, vR 1 0), (15, vI T[at_.toNat].kids[i]), (16, vP (a_3.add ((i - 1) * 5))), (109, vS (some a_2) T[at_.toNat].kids.length ckids_el2), (110, vI (↑T[at_.toNat].kids.length : Int)), (111, vI (↑i : Int)), (131, vS (some a_3) T[at_.toNat].entries.length centries_el2), (132, vI (↑i : Int))] [LB.mk [cS (some a_1) T.length c0, cI root, SC.v (Value.map (some m)), cI r.snd] 89, LB.mk [SC.bo false, cS (some a_3) T[at_.toNat].entries.length centries_el2, cS (some a_2) T[at_.toNat].kids.length ckids_el2] 96]) (by kernel_rfl) (by kernel_rfl) (by kernel_rfl) ?_
            refine index_at 3 (by kernel_rfl : atP _ _ _ 3 false = some (Op.indexAddr 34 (tmpO 131) (tmpO 132), 0, some 133, Rg.sq (bitL 20 389055) 4)) (ni := i) (sz := 5) (by kernel_rfl) rfl rfl rfl (by assumption) (fun L w1 hs => rd_some (i := i) (rdRow_ext (hs.old 0 rfl) hr1_el2) (by assumption)) ?_
            intro a_4 ha_4
            cases ha_4
            refine go mixed 2000 [0, 2, 3, 4, 11, 109, 110, 111, 134, 135, 137, 138, 139] 2 (St.mk (Rg.sq (bitL 19 257983) 6) [kCd (bitL 19 520127), KI.block 3, kCd (bitL 13 8127), kLp (bitL 10 959), KI.block 2, kCd (bitL 7 127)] [(0, vR 0 0), (2, vI dp), (3, SV.one (SC.v (Value.pointer plo))), (4, SV.one (SC.v (Value.pointer phi))), (11, vR 1 0), (109, vS (some a_2) T[at_.toNat].kids.length ckids_el2), (110, vI (↑T[at_.toNat].kids.length : Int)), (111, vI (↑i : Int)), (134, vR 0 0), (135, vI T[at_.toNat].kids[i]), (137, vI (IntKind.i64.wrap (dp + 1))), (138, vP (a_3.add ((i - 1) * 5))), (139, vP (a_3.add (i * 5)))] [LB.mk [cS (some a_1) T.length c0, cI root, SC.v (Value.map (some m)), cI r.snd] 89, LB.mk [SC.bo false, cS (some a_3) T[at_.toNat].entries.length centries_el2, cS (some a_2) T[at_.toNat].kids.length ckids_el2] 96]) (by kernel_rfl) (by kernel_rfl) (by kernel_rfl) ?_
            simp only [fl_ne_self, fl_eq_self, fl_eq0, fl_ne0, fl_gt0, fl_lt0, nf_1, nf_2, nf_3]
            refine h_bring 2 rfl ?_
            refine call_lb (A := [mapA m r.1]) (vals := [.slice (some a_1) T.length c0, .int .i64 root, .map (some m), .int .i64 r.2]) (by kernel_rfl : atC _ _ _ false = some (56, [vR 0 0, vI T[at_.toNat].kids[i], vI (dp + 1), vP (a_3.add ((i - 1) * 5)), vP (a_3.add (i * 5))], some 140, Rg.sq (bitL 19 257983) 7)) (by kernel_rfl) rfl rfl (fun L w1 S1 hs hA hS1 hT2 _ => (ihf r _ (dp + 1) (some T[at_.toNat].entries[i - 1]) (some T[at_.toNat].entries[i]) _ _ _ S1 w1 hA hS1 (Nat.le_trans h0 hs.1.1.size) (old_apart hT2 0 rfl).1 (old_apart hT2 0 rfl).2 (ptr_el hrE him (sd_3 _ him)) (ptr_el hrE hil (sd_3 _ hil)) hg1 (by omega) (by omega)).mono ?_)
            rintro e w2 ⟨b2, r2, rfl, hm, hsd⟩
            refine ⟨.one (.bo b2), [.v (.slice (some a_1) T.length c0), .v (.int .i64 root), .v (.map (some m)), .v (.int .i64 r2.2)], _, _, rfl, rfl, hm, ?_⟩
            clear hm hs hA hS1 hT2
            refine h_bring 1 rfl ?_
            refine h_bring 2 rfl ?_
            refine h_bring 1 rfl ?_
            cases hc : chk T f r T[at_.toNat].kids[i] (dp + 1) (some T[at_.toNat].entries[i - 1]) (some T[at_.toNat].entries[i]) with
            | none =>
              rw [hc] at hsd
              obtain rfl : b2 = false := hsd
              refine go mixed 2000 [0, 2, 3, 4, 11, 109, 110, 111, 141] 2 (St.mk Rg.no [kCd (bitL 19 520127), KI.block 3, kCd (bitL 13 8127), kLp (bitL 10 959), KI.block 2, kCd (bitL 7 127)] [(0, vR 0 0), (2, vI dp), (3, SV.one (SC.v (Value.pointer plo))), (4, SV.one (SC.v (Value.pointer phi))), (11, vR 1 0), (109, vS (some a_2) T[at_.toNat].kids.length ckids_el2), (110, vI (↑T[at_.toNat].kids.length : Int)), (111, vI (↑i : Int)), (141, vB true)] [LB.mk [cS (some a_1) T.length c0, cI root, SC.v (Value.map (some m)), cI r2.snd] 89, LB.mk [SC.bo false, cS (some a_3) T[at_.toNat].entries.length centries_el2, cS (some a_2) T[at_.toNat].kids.length ckids_el2] 96]) (by kernel_rfl) (by kernel_rfl) (by kernel_rfl) ?_
              refine lit_at 141 (b := true) (by kernel_rfl) ?_
              refine go mixed 2000 [10] 1 (St.mk Rg.no [kCd (bitL 21 1568703), KI.block 3, kCd (bitL 13 8127), kLp (bitL 10 959), KI.block 2, kCd (bitL 7 127)] [(10, vL false)] [LB.mk [cS (some a_1) T.length c0, cI root, SC.v (Value.map (some m)), cI r2.snd] 89]) (by kernel_rfl) (by kernel_rfl) (by kernel_rfl) ?_
              simp only [fl_ne_self, fl_eq_self, fl_eq0, fl_ne0, fl_gt0, fl_lt0, nf_1, nf_2, nf_3]
              refine ret_ok (vs := [vL false]) (by kernel_rfl) ?_
              intro L w1 hs
              exact ⟨false, r2, rfl, fin_ptr hs hag rfl rfl hgS, chk_kids hlt hcd hlf (by rw [hk1, hdrop]; simp only [kidsF]; rw [hLO, hHI, hc]; rfl)⟩
            | some x =>
              rw [hc] at hsd
              obtain ⟨rfl, rfl⟩ : b2 = true ∧ r2 = x := hsd
              obtain ⟨hg2, hl2⟩ := chk_inv f _ _ _ _ _ _ hc hg1
              refine go mixed 2000 [0, 2, 3, 4, 11, 109, 110, 111, 141] 2 (St.mk Rg.no [kCd (bitL 19 520127), KI.block 3, kCd (bitL 13 8127), kLp (bitL 10 959), KI.block 2, kCd (bitL 7 127)] [(0, vR 0 0), (2, vI dp), (3, SV.one (SC.v (Value.pointer plo))), (4, SV.one (SC.v (Value.pointer phi))), (11, vR 1 0), (109, vS (some a_2) T[at_.toNat].kids.length ckids_el2), (110, vI (↑T[at_.toNat].kids.length : Int)), (111, vI (↑i : Int)), (141, vB false)] [LB.mk [cS (some a_1) T.length c0, cI root, SC.v (Value.map (some m)), cI r2.snd] 89, LB.mk [SC.bo false, cS (some a_3) T[at_.toNat].entries.length centries_el2, cS (some a_2) T[at_.toNat].kids.length ckids_el2] 96]) (by kernel_rfl) (by kernel_rfl) (by kernel_rfl) ?_
              refine lit_at 141 (b := false) (by kernel_rfl) ?_
              refine go mixed 2000 [0, 2, 3, 4, 11, 109, 110, 111] 2 (St.mk Rg.no [kLp (bitL 10 959), KI.block 2, kCd (bitL 7 127)] [(0, vR 0 0), (2, vI dp), (3, SV.one (SC.v (Value.pointer plo))), (4, SV.one (SC.v (Value.pointer phi))), (11, vR 1 0), (109, vS (some a_2) T[at_.toNat].kids.length ckids_el2), (110, vI (↑T[at_.toNat].kids.length : Int)), (111, vI (IntKind.i64.wrap ((↑i : Int) + 1)))] [LB.mk [cS (some a_1) T.length c0, cI root, SC.v (Value.map (some m)), cI r2.snd] 89, LB.mk [SC.bo false, cS (some a_3) T[at_.toNat].entries.length centries_el2, cS (some a_2) T[at_.toNat].kids.length ckids_el2] 96]) (by kernel_rfl) (by kernel_rfl) (by kernel_rfl) ?_
              simp only [fl_ne_self, fl_eq_self, fl_eq0, fl_ne0, fl_gt0, fl_lt0, nf_1, nf_2, nf_3]
              rw [wrap_succ (by omega)]; exact ih (i + 1, r2) ⟨by simp only; omega, hg2, by simp only; omega, by simp only; rw [hk1, hdrop]; simp only [kidsF]; rw [hLO, hHI, hc]⟩ (by simp only; omega)
          · have hLO : (if 0 < i then T[at_.toNat].entries[i - 1]? else lo) = (some T[at_.toNat].entries[i - 1]) := by rw [if_pos hpos, List.getElem?_eq_getElem him]
            have hHI : (if i < T[at_.toNat].entries.length then T[at_.toNat].entries[i]? else hi) = hi := if_neg (by omega)
            refine go mixed 2000 [0, 2, 3, 4, 11, 14, 15, 16, 17, 109, 110, 111, 119] 2 (St.mk Rg.no [kCd (bitL 18 192447), kCd (bitL 17 126911), KI.block 3, kCd (bitL 13 8127), kLp (bitL 10 959), KI.block 2, kCd (bitL 7 127)] [(0, vR 0 0), (2, vI dp), (3, SV.one (SC.v (Value.pointer plo))), (4, SV.one (SC.v (Value.pointer phi))), (11, vR 1 0), (14, vI (↑i : Int)), (15, vI T[at_.toNat].kids[i]), (16, SV.one (SC.v (Value.pointer plo))), (17, SV.one (SC.v (Value.pointer phi))), (109, vS (some a_2) T[at_.toNat].kids.length ckids_el2), (110, vI (↑T[at_.toNat].kids.length : Int)), (111, vI (↑i : Int)), (119, vB (decide ((↑i : Int) > 0)))] [LB.mk [cS (some a_1) T.length c0, cI root, SC.v (Value.map (some m)), cI r.snd] 89, LB.mk [SC.bo false, cS Aentries_el2 T[at_.toNat].entries.length centries_el2, cS (some a_2) T[at_.toNat].kids.length ckids_el2] 96]) (by kernel_rfl) (by kernel_rfl) (by kernel_rfl) ?_
            refine split_at 119 (b := decide ((↑i : Int) > 0)) (by kernel_rfl) (by kernel_rfl) ?_ ?_
            rotate_left
            · intro hb6
              replace hb6 := of_decide_eq_false hb6
              (exfalso; omega)
            intro hb6
            replace hb6 := of_decide_eq_true hb6
            refine go mixed 2000 [0, 2, 3, 4, 11, 14, 15, 17, 109, 110, 111, 121, 123] 2 (St.mk (Rg.sq (bitL 19 192447) 4) [kCd (bitL 17 126911), KI.block 3, kCd (bitL 13 8127), kLp (bitL 10 959), KI.block 2, kCd (bitL 7 127)] [(0, vR 0 0), (2, vI dp), (3, SV.one (SC.v (Value.pointer plo))), (4, SV.one (SC.v (Value.pointer phi))), (11, vR 1 0), (14, vI (↑i : Int)), (15, vI T[at_.toNat].kids[i]), (17, SV.one (SC.v (Value.pointer phi))), (109, vS (some a_2) T[at_.toNat].kids.length ckids_el2), (110, vI (↑T[at_.toNat].kids.length : Int)), (111, vI (↑i : Int)), (121, vS Aentries_el2 T[at_.toNat].entries.length centries_el2), (123, vI (IntKind.i64.wrap ((↑i : Int) - 1)))] [LB.mk [cS (some a_1) T.length c0, cI root, SC.v (Value.map (some m)), cI r.snd] 89, LB.mk [SC.bo false, cS Aentries_el2 T[at_.toNat].entries.length centries_el2, cS (some a_2) T[at_.toNat].kids.length ckids_el2] 96]) (by kernel_rfl) (by kernel_rfl) (by kernel_rfl) ?_
            simp only [fl_ne_self, fl_eq_self, fl_eq0, fl_ne0, fl_gt0, fl_lt0, nf_1, nf_2, nf_3]
            refine index_at 4 (by kernel_rfl : atP _ _ _ 4 false = some (Op.indexAddr 34 (tmpO 121) (tmpO 123), 0, some 124, Rg.sq (bitL 19 192447) 5)) (ni := i - 1) (sz := 5) (by kernel_rfl) rfl rfl rfl (by assumption) (fun L w1 hs => rd_some (i := i - 1) (rdRow_ext (hs.old 0 rfl) hr1_el2) (by assumption)) ?_
            intro a_3 ha_3
            cases ha_3
            refine go mixed 2000 [0, 2, 3, 4, 11, 14, 15, 16, 17, 109, 110, 111, 129] 2 (St.mk Rg.no [kCd (bitL 19 389055), kCd (bitL 18 257983), KI.block 3, kCd (bitL 13 8127), kLp (bitL 10 959), KI.block 2, kCd (bitL 7 127)] [(0, vR 0 0), (2, vI dp), (3, SV.one (SC.v (Value.pointer plo))), (4, SV.one (SC.v (Value.pointer phi))), (11, vR 1 0), (14, vI (↑i : Int)), (15, vI T[at_.toNat].kids[i]), (16, vP (a_3.add ((i - 1) * 5))), (17, SV.one (SC.v (Value.pointer phi))), (109, vS (some a_2) T[at_.toNat].kids.length ckids_el2), (110, vI (↑T[at_.toNat].kids.length : Int)), (111, vI (↑i : Int)), (129, vB (decide ((↑i : Int) < (↑T[at_.toNat].entries.length : Int))))] [LB.mk [cS (some a_1) T.length c0, cI root, SC.v (Value.map (some m)), cI r.snd] 89, LB.mk [SC.bo false, cS (some a_3) T[at_.toNat].entries.length centries_el2, cS (some a_2) T[at_.toNat].kids.length ckids_el2] 96]) (by kernel_rfl) (by kernel_rfl) (by kernel_rfl) ?_
            refine split_at 129 (b := decide ((↑i : Int) < (↑T[at_.toNat].entries.length : Int))) (by kernel_rfl) (by kernel_rfl) ?_ ?_
            · intro hb7
              replace hb7 := of_decide_eq_true hb7
              (exfalso; omega)
            intro hb7
            replace hb7 := of_decide_eq_false hb7
            refine go mixed 2000 [0, 2, 3, 4, 11, 109, 110, 111, 134, 135, 137, 138, 139] 2 (St.mk (Rg.sq (bitL 19 257983) 6) [kCd (bitL 19 520127), KI.block 3, kCd (bitL 13 8127), kLp (bitL 10 959), KI.block 2, kCd (bitL 7 127)] [(0, vR 0 0), (2, vI dp), (3, SV.one (SC.v (Value.pointer plo))), (4, SV.one (SC.v (Value.pointer phi))), (11, vR 1 0), (109, vS (some a_2) T[at_.toNat].kids.length ckids_el2), (110, vI (↑T[at_.toNat].kids.length : Int)), (111, vI (↑i : Int)), (134, vR 0 0), (135, vI T[at_.toNat].kids[i]), (137, vI (IntKind.i64.wrap (dp + 1))), (138, vP (a_3.add ((i - 1) * 5))), (139, SV.one (SC.v (Value.pointer phi)))] [LB.mk [cS (some a_1) T.length c0, cI root, SC.v (Value.map (some m)), cI r.snd] 89, LB.mk [SC.bo false, cS (some a_3) T[at_.toNat].entries.length centries_el2, cS (some a_2) T[at_.toNat].kids.length ckids_el2] 96]) (by kernel_rfl) (by kernel_rfl) (by kernel_rfl) ?_
            simp only [fl_ne_self, fl_eq_self, fl_eq0, fl_ne0, fl_gt0, fl_lt0, nf_1, nf_2, nf_3]
            refine h_bring 2 rfl ?_
            refine call_lb (A := [mapA m r.1]) (vals := [.slice (some a_1) T.length c0, .int .i64 root, .map (some m), .int .i64 r.2]) (by kernel_rfl : atC _ _ _ false = some (56, [vR 0 0, vI T[at_.toNat].kids[i], vI (dp + 1), vP (a_3.add ((i - 1) * 5)), SV.one (SC.v (Value.pointer phi))], some 140, Rg.sq (bitL 19 257983) 7)) (by kernel_rfl) rfl rfl (fun L w1 S1 hs hA hS1 hT2 _ => (ihf r _ (dp + 1) (some T[at_.toNat].entries[i - 1]) hi _ phi _ S1 w1 hA hS1 (Nat.le_trans h0 hs.1.1.size) (old_apart hT2 0 rfl).1 (old_apart hT2 0 rfl).2 (ptr_el hrE him (sd_3 _ him)) hhi hg1 (by omega) (by omega)).mono ?_)
            rintro e w2 ⟨b2, r2, rfl, hm, hsd⟩
            refine ⟨.one (.bo b2), [.v (.slice (some a_1) T.length c0), .v (.int .i64 root), .v (.map (some m)), .v (.int .i64 r2.2)], _, _, rfl, rfl, hm, ?_⟩
            clear hm hs hA hS1 hT2
            refine h_bring 1 rfl ?_
            refine h_bring 2 rfl ?_
            refine h_bring 1 rfl ?_
            cases hc : chk T f r T[at_.toNat].kids[i] (dp + 1) (some T[at_.toNat].entries[i - 1]) hi with
            | none =>
              rw [hc] at hsd
              obtain rfl : b2 = false := hsd
              refine go mixed 2000 [0, 2, 3, 4, 11, 109, 110, 111, 141] 2 (St.mk Rg.no [kCd (bitL 19 520127), KI.block 3, kCd (bitL 13 8127), kLp (bitL 10 959), KI.block 2, kCd (bitL 7 127)] [(0, vR 0 0), (2, vI dp), (3, SV.one (SC.v (Value.pointer plo))), (4, SV.one (SC.v (Value.pointer phi))), (11, vR 1 0), (109, vS (some a_2) T[at_.toNat].kids.length ckids_el2), (110, vI (↑T[at_.toNat].kids.length : Int)), (111, vI (↑i : Int)), (141, vB true)] [LB.mk [cS (some a_1) T.length c0, cI root, SC.v (Value.map (some m)), cI r2.snd] 89, LB.mk [SC.bo false, cS (some a_3) T[at_.toNat].entries.length centries_el2, cS (some a_2) T[at_.toNat].kids.length ckids_el2] 96]) (by kernel_rfl) (by kernel_rfl) (by kernel_rfl) ?_
              refine lit_at 141 (b := true) (by kernel_rfl) ?_
              refine go mixed 2000 [10] 1 (St.mk Rg.no [kCd (bitL 21 1568703), KI.block 3, kCd (bitL 13 8127), kLp (bitL 10 959), KI.block 2, kCd (bitL 7 127)] [(10, vL false)] [LB.mk [cS (some a_1) T.length c0, cI root, SC.v (Value.map (some m)), cI r2.snd] 89]) (by kernel_rfl) (by kernel_rfl) (by kernel_rfl) ?_
              simp only [fl_ne_self, fl_eq_self, fl_eq0, fl_ne0, fl_gt0, fl_lt0, nf_1, nf_2, nf_3]
              refine ret_ok (vs := [vL false]) (by kernel_rfl) ?_
              intro L w1 hs
              exact ⟨false, r2, rfl, fin_ptr hs hag rfl rfl hgS, chk_kids hlt hcd hlf (by rw [hk1, hdrop]; simp only [kidsF]; rw [hLO, hHI, hc]; rfl)⟩
            | some x =>
              rw [hc] at hsd
              obtain ⟨rfl, rfl⟩ : b2 = true ∧ r2 = x := hsd
              obtain ⟨hg2, hl2⟩ := chk_inv f _ _ _ _ _ _ hc hg1
              refine go mixed 2000 [0, 2, 3, 4, 11, 109, 110, 111, 141] 2 (St.mk Rg.no [kCd (bitL 19 520127), KI.block 3, kCd (bitL 13 8127), kLp (bitL 10 959), KI.block 2, kCd (bitL 7 127)] [(0, vR 0 0), (2, vI dp), (3, SV.one (SC.v (Value.pointer plo))), (4, SV.one (SC.v (Value.pointer phi))), (11, vR 1 0), (109, vS (some a_2) T[at_.toNat].kids.length ckids_el2), (110, vI (↑T[at_.toNat].kids.length : Int)), (111, vI (↑i : Int)), (141, vB false)] [LB.mk [cS (some a_1) T.length c0, cI root, SC.v (Value.map (some m)), cI r2.snd] 89, LB.mk [SC.bo false, cS (some a_3) T[at_.toNat].entries.length centries_el2, cS (some a_2) T[at_.toNat].kids.length ckids_el2] 96]) (by kernel_rfl) (by kernel_rfl) (by kernel_rfl) ?_
              refine lit_at 141 (b := false) (by kernel_rfl) ?_
              refine go mixed 2000 [0, 2, 3, 4, 11, 109, 110, 111] 2 (St.mk Rg.no [kLp (bitL 10 959), KI.block 2, kCd (bitL 7 127)] [(0, vR 0 0), (2, vI dp), (3, SV.one (SC.v (Value.pointer plo))), (4, SV.one (SC.v (Value.pointer phi))), (11, vR 1 0), (109, vS (some a_2) T[at_.toNat].kids.length ckids_el2), (110, vI (↑T[at_.toNat].kids.length : Int)), (111, vI (IntKind.i64.wrap ((↑i : Int) + 1)))] [LB.mk [cS (some a_1) T.length c0, cI root, SC.v (Value.map (some m)), cI r2.snd] 89, LB.mk [SC.bo false, cS (some a_3) T[at_.toNat].entries.length centries_el2, cS (some a_2) T[at_.toNat].kids.length ckids_el2] 96]) (by kernel_rfl) (by kernel_rfl) (by kernel_rfl) ?_
              simp only [fl_ne_self, fl_eq_self, fl_eq0, fl_ne0, fl_gt0, fl_lt0, nf_1, nf_2, nf_3]
              rw [wrap_succ (by omega)]; exact ih (i + 1, r2) ⟨by simp only; omega, hg2, by simp only; omega, by simp only; rw [hk1, hdrop]; simp only [kidsF]; rw [hLO, hHI, hc]⟩ (by simp only; omega)
      · refine go mixed 2000 [0, 2, 3, 4, 11, 109, 110, 111, 112] 2 (St.mk Rg.no [kCd (bitL 12 1983), kCd (bitL 12 4031), kLp (bitL 10 959), KI.block 2, kCd (bitL 7 127)] [(0, vR 0 0), (2, vI dp), (3, SV.one (SC.v (Value.pointer plo))), (4, SV.one (SC.v (Value.pointer phi))), (11, vR 1 0), (109, vS Akids_el2 T[at_.toNat].kids.length ckids_el2), (110, vI (↑T[at_.toNat].kids.length : Int)), (111, vI (↑i : Int)), (112, vB (decide ((↑i : Int) < (↑T[at_.toNat].kids.length : Int))))] [LB.mk [cS (some a_1) T.length c0, cI root, SC.v (Value.map (some m)), cI r.snd] 89, LB.mk [SC.bo false, cS Aentries_el2 T[at_.toNat].entries.length centries_el2, cS Akids_el2 T[at_.toNat].kids.length ckids_el2] 96]) (by kernel_rfl) (by kernel_rfl) (by kernel_rfl) ?_
        refine split_at 112 (b := decide ((↑i : Int) < (↑T[at_.toNat].kids.length : Int))) (by kernel_rfl) (by kernel_rfl) ?_ ?_
        · intro hb5
          replace hb5 := of_decide_eq_true hb5
          (exfalso; omega)
        · intro hb5
          replace hb5 := of_decide_eq_false hb5
          refine go mixed 2000 [10] 1 (St.mk Rg.no [kCd (bitL 8 255)] [(10, vL true)] [LB.mk [cS (some a_1) T.length c0, cI root, SC.v (Value.map (some m)), cI r.snd] 89]) (by kernel_rfl) (by kernel_rfl) (by kernel_rfl) ?_
          refine ret_ok (vs := [vL true]) (by kernel_rfl) ?_
          intro L w1 hs
          exact ⟨true, r, rfl, fin_ptr hs hag rfl rfl hgS, chk_kids hlt hcd hlf (by rw [hk1, List.drop_eq_nil_of_le hik]; exact ⟨rfl, rfl⟩)⟩
end Go.Proofs.Ytgleoebogikooaa.Dk
