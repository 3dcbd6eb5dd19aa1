/- Walks of functions of the program: what each call returns and what it leaves in memory. Conditions: those that each theorem names. -/
import Derived.Test.YtgleoebogikooaaM1
import Derived.Test.YtgleoebogikooaaL2
namespace Go.Proofs.Ytgleoebogikooaa.Dk
set_option linter.unusedVariables false
set_option linter.unusedSimpArgs false
open Go.Proofs.Ytgleoebogikooaa.Sx Go.Proofs Go.RowKit
set_option maxRecDepth 100000
set_option maxHeartbeats 1000000
theorem kidsF_step {c : CS → Int → Option En → Option En → Option CS} {n : Nd} {lo hi : Option En} {k : Int} {r : List Int} {i : Nat} {s s' : CS} (h : kidsF c n lo hi (k :: r) i s = some s') :
    ∃ s1, c s k (if 0 < i then n.entries[i - 1]? else lo) (if i < n.entries.length then n.entries[i]? else hi) = some s1 ∧ kidsF c n lo hi r (i + 1) s1 = some s' := by
  simp only [kidsF] at h
  split at h
  · cases h
  · rename_i s1 h1
    exact ⟨s1, h1, h⟩
theorem kidsF_len {T : List Nd} {f : Nat} {dp : Int} (hc : ∀ s k lo hi s', chk T f s k dp lo hi = some s' → (collect T f k).length + 4 * s.1.length ≤ 4 * s'.1.length) {n : Nd} {lo hi : Option En} :
    ∀ (l : List Int) (i : Nat) (s s' : CS), kidsF (fun s k lo hi => chk T f s k dp lo hi) n lo hi l i s = some s' → (l.flatMap (collect T f)).length + 4 * s.1.length ≤ 4 * s'.1.length
  | [], i, s, s', h => by cases h; simp
  | k :: r, i, s, s', h => by
    obtain ⟨s1, h1, h2⟩ := kidsF_step h
    have h3 := hc _ _ _ _ _ h1
    have h4 := kidsF_len hc r (i + 1) s1 s' h2
    rw [List.flatMap_cons, List.length_append]
    omega
theorem collect_len {T : List Nd} : ∀ (f : Nat) (s : CS) (at_ dp : Int) (lo hi : Option En) (s' : CS), chk T f s at_ dp lo hi = some s' → (collect T f at_).length + 4 * s.1.length ≤ 4 * s'.1.length
  | 0, _, _, _, _, _, _, h => by cases h
  | f + 1, s, at_, dp, lo, hi, s', h => by
    obtain ⟨hlt, h0, hno, ⟨hl, hq, rfl⟩ | ⟨hl, h⟩⟩ := chk_open h
    · have := (nodeOk_parts hno).2.1
      rw [collect_leaf hlt hl]
      simp only [List.length_append, List.length_singleton]
      omega
    · have h5 := kidsF_len (fun s k lo hi s' h => collect_len f s k (dp + 1) lo hi s' h) _ _ _ _ h
      rw [collect_in hlt hl]
      simp only [List.length_append, List.length_singleton] at h5
      omega
theorem collect_mem {T : List Nd} : ∀ (f : Nat) (at_ : Int) (x : En), x ∈ collect T f at_ → ∃ n ∈ T, x ∈ n.entries
  | 0, _, _, h => by simp [collect] at h
  | f + 1, at_, x, h => by
    unfold collect at h
    split at h
    · simp at h
    · rename_i n hn
      split at h
      · exact ⟨n, List.mem_of_getElem? hn, h⟩
      · obtain ⟨k, _, hk⟩ := List.mem_flatMap.1 h
        exact collect_mem f k x hk
theorem flat_take {T : List Nd} {f : Nat} {l : List Int} {i : Nat} (h : i < l.length) : (l.take i).flatMap (collect T f) ++ collect T f l[i] = (l.take (i + 1)).flatMap (collect T f) := by
  rw [List.take_succ_eq_append_getElem h, List.flatMap_append, List.flatMap_singleton]
def allR (t : Tr) : List En := if treeOk t = true then collect t.nodes (t.nodes.length + 1) t.root else []
theorem all_no {t : Tr} {b : Bool} (h : b = treeOk t) (hb : b = false) : allR t = [] := by
  unfold allR
  rw [← h, hb]
  rfl
theorem all_yes {t : Tr} {b : Bool} (h : b = treeOk t) (hb : b = true) : allR t = collect t.nodes (t.nodes.length + 1) t.root := by
  unfold allR
  rw [← h, hb]
  rfl
theorem allR_mem {t : Tr} {x : En} (h : x ∈ allR t) : ∃ n ∈ t.nodes, x ∈ n.entries := by
  unfold allR at h
  split at h
  · exact collect_mem _ _ _ h
  · simp at h
theorem allR_len (t : Tr) : (allR t).length ≤ 4 * t.nodes.length := by
  unfold allR
  split
  · rename_i h
    obtain ⟨x, hx⟩ := treeOk_R h
    have h1 := collect_len _ _ _ _ _ _ _ hx
    have h2 := goodS_len (chk_inv _ _ _ _ _ _ _ hx ⟨List.nodup_nil, fun x hx => by simp at hx⟩).1
    simp only [List.length_nil] at h1
    omega
  · simp
theorem iAll_ok (T : List Nd) (A0 : Option Addr) (c0 : Nat) (root : Int) (hk : ∀ n ∈ T, ∀ e ∈ n.entries, e.key.t.length ≤ 1048576) (hsz : T.length ≤ 300) (hsz2 : ∀ n ∈ T, n.entries.length ≤ 1048576 ∧ n.kids.length ≤ 1048576) :
    ∀ (f : Nat) (s : CS) (at_ dp : Int) (lo hi : Option En) (s' : CS) (w : World) (hc : chk T f s at_ dp lo hi = some s') (hg : goodS T s.1) (hT : rdRow kNd w.heap T (.slice A0 T.length c0)),
      Calls Try.prog 59 #[.agg #[.slice A0 T.length c0, .int .i64 root], .int .i64 at_] w fun e w' => ∃ (B : Option Addr) (d : Nat), e = .returned (.slice B (collect T f at_).length d) ∧ Fresh w w' [rowA 101 kEn (collect T f at_) (.slice B (collect T f at_).length d)] := by
  intro f
  induction f with
  | zero => intro s _ _ _ _ _ _ hc; cases hc
  | succ f ihf =>
    intro s at_ dp lo hi s' w hc hg hT
    obtain ⟨hlt, h0, hno, hcs⟩ := chk_open hc
    have hkE : ∀ x ∈ T[at_.toNat].entries, x.key.t.length ≤ 1048576 := hk _ (List.getElem_mem hlt)
    have hzE := hsz2 _ (List.getElem_mem hlt)
    refine enter (args := [.agg [.v (.slice A0 T.length c0), .v (.int .i64 root)], .one (.v (.int .i64 at_))]) Try.func59 (c := bodyOf Try.f59) rfl rfl (start_LOK _) (start_old w) ?_
    refine go mixed 2000 [2, 10, 11] 1 (St.mk (Rg.sq [true, false] 3) [KI.code [true, true]] [(2, vR 0 0), (10, vS A0 T.length c0), (11, vI at_)] [LB.mk [cS A0 T.length c0, cI root] 29]) (by kernel_rfl) (by kernel_rfl) (by kernel_rfl) ?_
    refine index_at 3 (by kernel_rfl : atP _ _ _ 3 false = some (Op.indexAddr 27 (tmpO 10) (tmpO 11), 0, some 12, Rg.sq [true, false] 4)) (ni := at_.toNat) (sz := 3) (by kernel_rfl) rfl rfl (by omega) (by assumption) (fun L w1 hs => rd_some (i := at_.toNat) (rdRow_ext (hs.old 0 rfl) hT) (by assumption)) ?_
    intro a_1 ha_1
    cases ha_1
    refine go mixed 2000 [2, 12] 1 (St.mk (Rg.sq [true, false] 4) [KI.code [true, true]] [(2, vR 0 0), (12, vP (a_1.add (at_.toNat * 3)))] [LB.mk [cS (some a_1) T.length c0, cI root] 29]) (by kernel_rfl) (by kernel_rfl) (by kernel_rfl) ?_
    obtain ⟨Aentries_el1, centries_el1, Akids_el1, ckids_el1, hr1_el1, hr2_el1, hc_el1⟩ := Go.Proofs.Ytgleoebogikooaa.Dk.kNd_at (i := at_.toNat) hT (by assumption)
    refine load_agg 4 (by kernel_rfl : atP _ _ _ 4 true = some (Op.load 96 (tmpO 12), 96, some 13, Rg.sq [true, false] 5)) (n := 3) (by kernel_rfl) rfl ?_
    intro L w1 hs
    refine ⟨[.bo (T[at_.toNat].leaf), .v (Value.slice Aentries_el1 T[at_.toNat].entries.length centries_el1), .v (Value.slice Akids_el1 T[at_.toNat].kids.length ckids_el1)], rfl, cells_at0 (cellsH_ext (hs.old 0 rfl) hc_el1) rfl, ?_⟩
    clear hs
    refine go mixed 2000 [2, 5, 15] 2 (St.mk Rg.no [kCd (bitL 4 11), kCd (bitL 3 7)] [(2, vR 0 0), (5, vR 1 0), (15, vB T[at_.toNat].leaf)] [LB.mk [cS (some a_1) T.length c0, cI root] 29, LB.mk [SC.bo T[at_.toNat].leaf, cS Aentries_el1 T[at_.toNat].entries.length centries_el1, cS Akids_el1 T[at_.toNat].kids.length ckids_el1] 96]) (by kernel_rfl) (by kernel_rfl) (by kernel_rfl) ?_
    rcases hcs with ⟨nf_1, hq, rfl⟩ | ⟨nf_1, hkf⟩
    · refine go mixed 2000 [2, 5, 15] 2 (St.mk Rg.no [kCd (bitL 4 11), kCd (bitL 3 7)] [(2, vR 0 0), (5, vR 1 0), (15, vB T[at_.toNat].leaf)] [LB.mk [cS (some a_1) T.length c0, cI root] 29, LB.mk [SC.bo T[at_.toNat].leaf, cS Aentries_el1 T[at_.toNat].entries.length centries_el1, cS Akids_el1 T[at_.toNat].kids.length ckids_el1] 96]) (by kernel_rfl) (by kernel_rfl) (by kernel_rfl) ?_
      simp only [fl_ne_self, fl_eq_self, fl_eq0, fl_ne0, fl_gt0, fl_lt0, nf_1]
      refine go mixed 2000 [2, 5, 15] 2 (St.mk Rg.no [kCd (bitL 4 11), kCd (bitL 3 7)] [(2, vR 0 0), (5, vR 1 0), (15, vB true)] [LB.mk [cS (some a_1) T.length c0, cI root] 29, LB.mk [SC.bo true, cS Aentries_el1 T[at_.toNat].entries.length centries_el1, cS Akids_el1 T[at_.toNat].kids.length ckids_el1] 96]) (by kernel_rfl) (by kernel_rfl) (by kernel_rfl) ?_
      refine lit_at 15 (b := true) (by kernel_rfl) ?_
      refine go mixed 2000 [17] 0 (St.mk (Rg.sq (bitL 6 11) 2) [kCd (bitL 6 43), kCd (bitL 3 7)] [(17, vS Aentries_el1 T[at_.toNat].entries.length centries_el1)] []) (by kernel_rfl) (by kernel_rfl) (by kernel_rfl) ?_
      refine call_at true (by kernel_rfl : atC _ _ _ true = some (103, [vS Aentries_el1 T[at_.toNat].entries.length centries_el1], some 18, Rg.sq (bitL 6 11) 3)) (by kernel_rfl) (fun L w1 hs => (Go.Proofs.Ytgleoebogikooaa.Dk.iOwnEs_ok (T[at_.toNat].entries) (Value.slice Aentries_el1 T[at_.toNat].entries.length centries_el1) w1 (rdRow_ext (hs.old 0 rfl) hr1_el1) (by omega) (by assumption)).mono ?_)
      rintro e_ w2_ ⟨B_1, d_1, rfl, hf_⟩
      refine ⟨.one (.v (Value.slice B_1 T[at_.toNat].entries.length d_1)), _, _, rfl, fun _ => hf_.1.block, hs.fresh hf_, ?_⟩
      clear hs hf_
      refine go mixed 2000 [4] 0 (St.mk Rg.no [kCd (bitL 6 43), kCd (bitL 3 7)] [(4, vS B_1 T[at_.toNat].entries.length d_1)] []) (by kernel_rfl) (by kernel_rfl) (by kernel_rfl) ?_
      refine ret_ok (vs := [vS B_1 T[at_.toNat].entries.length d_1]) (by kernel_rfl) ?_
      intro L w1 hs
      rw [collect_leaf hlt nf_1]; exact ⟨_, _, rfl, hs.out (As := [_])⟩
    · refine h_nil 101 kEn ?_
      refine go mixed 2000 [2, 5, 15] 2 (St.mk Rg.no [kCd (bitL 4 11), kCd (bitL 3 7)] [(2, vR 0 0), (5, vR 1 0), (15, vB T[at_.toNat].leaf)] [LB.mk [cS (some a_1) T.length c0, cI root] 29, LB.mk [SC.bo T[at_.toNat].leaf, cS Aentries_el1 T[at_.toNat].entries.length centries_el1, cS Akids_el1 T[at_.toNat].kids.length ckids_el1] 96]) (by kernel_rfl) (by kernel_rfl) (by kernel_rfl) ?_
      simp only [fl_ne_self, fl_eq_self, fl_eq0, fl_ne0, fl_gt0, fl_lt0, nf_1]
      refine go mixed 2000 [2, 5, 15] 2 (St.mk Rg.no [kCd (bitL 4 11), kCd (bitL 3 7)] [(2, vR 0 0), (5, vR 1 0), (15, vB false)] [LB.mk [cS (some a_1) T.length c0, cI root] 29, LB.mk [SC.bo false, cS Aentries_el1 T[at_.toNat].entries.length centries_el1, cS Akids_el1 T[at_.toNat].kids.length ckids_el1] 96]) (by kernel_rfl) (by kernel_rfl) (by kernel_rfl) ?_
      refine lit_at 15 (b := false) (by kernel_rfl) ?_
      refine go mixed 2000 [2, 6, 20, 21, 22] 1 (St.mk Rg.no [kLp (bitL 8 239), KI.block 0, kCd (bitL 5 31)] [(2, vR 0 0), (6, vS none 0 0), (20, vS Akids_el1 T[at_.toNat].kids.length ckids_el1), (21, vI (↑T[at_.toNat].kids.length : Int)), (22, vI 0)] [LB.mk [cS (some a_1) T.length c0, cI root] 29]) (by kernel_rfl) (by kernel_rfl) (by kernel_rfl) ?_
      refine loop_at (ι := Nat × CS × Option Addr × Nat) (fun q => [(22, .one (.v (.int .i64 q.1))), (6, .one (.v (.slice q.2.2.1 ((T[at_.toNat].kids.take q.1).flatMap (collect T f)).length q.2.2.2)))]) (fun _ => []) (fun q => [rowA 101 kEn ((T[at_.toNat].kids.take q.1).flatMap (collect T f)) (.slice q.2.2.1 ((T[at_.toNat].kids.take q.1).flatMap (collect T f)).length q.2.2.2), oldA w])
        (fun q => q.1 ≤ T[at_.toNat].kids.length ∧ goodS T q.2.1.1 ∧ ((T[at_.toNat].kids.take q.1).flatMap (collect T f)).length ≤ 4 * q.2.1.1.length ∧ kidsF (fun s k lo hi => chk T f s k (dp + 1) lo hi) T[at_.toNat] lo hi (T[at_.toNat].kids.drop q.1) q.1 q.2.1 = some s') (fun q => T[at_.toNat].kids.length - q.1) (0, (s.1 ++ [at_], s.2), none, 0) rfl rfl rfl ⟨Nat.zero_le _, ?_, Nat.zero_le _, hkf⟩ ?_
      · obtain ⟨n, hn, hcn⟩ : ∃ n, T[at_.toNat]? = some n ∧ ((0 ≤ at_ ∧ at_ ∉ s.1)) := by
          refine ⟨_, List.getElem?_eq_getElem hlt, Classical.byContradiction fun hno => ?_⟩
          rw [chk_no hlt (fun h => hno h.1)] at hc
          cases hc
        exact goodS_add hg h0 (by omega) hcn.2
      rintro ⟨i, c, B, d⟩ ⟨hi1, hgc, hln, hkc⟩ ih
      simp only at hi1 hgc hln hkc ih ⊢
      have hcl := goodS_len hgc
      rcases Nat.lt_or_ge i T[at_.toNat].kids.length with hik | hik
      · rw [List.drop_eq_getElem_cons hik] at hkc
        obtain ⟨c1, hc1, hkr⟩ := kidsF_step hkc
        have h3 := collect_len _ _ _ _ _ _ _ hc1
        obtain ⟨hg1, _⟩ := chk_inv _ _ _ _ _ _ _ hc1 hgc
        have hcl1 := goodS_len hg1
        refine go mixed 2000 [2, 6, 20, 21, 22, 23] 1 (St.mk Rg.no [kCd (bitL 10 495), kCd (bitL 10 1007), kLp (bitL 8 239), KI.block 0, kCd (bitL 5 31)] [(2, vR 0 0), (6, vS B (List.flatMap (collect T f) (List.take i T[at_.toNat].kids)).length d), (20, vS Akids_el1 T[at_.toNat].kids.length ckids_el1), (21, vI (↑T[at_.toNat].kids.length : Int)), (22, vI (↑i : Int)), (23, vB (decide ((↑i : Int) < (↑T[at_.toNat].kids.length : Int))))] [LB.mk [cS (some a_1) T.length c0, cI root] 29]) (by kernel_rfl) (by kernel_rfl) (by kernel_rfl) ?_
        refine split_at 23 (b := decide ((↑i : Int) < (↑T[at_.toNat].kids.length : Int))) (by kernel_rfl) (by kernel_rfl) ?_ ?_
        rotate_left
        · intro hb1
          replace hb1 := of_decide_eq_false hb1
          (exfalso; omega)
        intro hb1
        replace hb1 := of_decide_eq_true hb1
        refine go mixed 2000 [2, 6, 20, 21, 22] 1 (St.mk (Rg.sq (bitL 13 3055) 0) [kCd (bitL 13 7151), KI.block 1, kCd (bitL 11 2031), kLp (bitL 8 239), KI.block 0, kCd (bitL 5 31)] [(2, vR 0 0), (6, vS B (List.flatMap (collect T f) (List.take i T[at_.toNat].kids)).length d), (20, vS Akids_el1 T[at_.toNat].kids.length ckids_el1), (21, vI (↑T[at_.toNat].kids.length : Int)), (22, vI (↑i : Int))] [LB.mk [cS (some a_1) T.length c0, cI root] 29]) (by kernel_rfl) (by kernel_rfl) (by kernel_rfl) ?_
        refine index_at 0 (by kernel_rfl : atP _ _ _ 0 false = some (Op.indexAddr 44 (tmpO 20) (tmpO 22), 0, some 24, Rg.sq (bitL 13 3055) 1)) (ni := i) (sz := 1) (by kernel_rfl) rfl rfl rfl (by assumption) (fun L w1 hs => rd_some (i := i) (rdRow_ext (hs.old 1 rfl) hr2_el1) (by assumption)) ?_
        intro a_2 ha_2
        cases ha_2
        refine go mixed 2000 [2, 6, 20, 21, 22, 24] 1 (St.mk (Rg.sq (bitL 13 3055) 1) [kCd (bitL 13 7151), KI.block 1, kCd (bitL 11 2031), kLp (bitL 8 239), KI.block 0, kCd (bitL 5 31)] [(2, vR 0 0), (6, vS B (List.flatMap (collect T f) (List.take i T[at_.toNat].kids)).length d), (20, vS (some a_2) T[at_.toNat].kids.length ckids_el1), (21, vI (↑T[at_.toNat].kids.length : Int)), (22, vI (↑i : Int)), (24, vP (a_2.add (i * 1)))] [LB.mk [cS (some a_1) T.length c0, cI root] 29]) (by kernel_rfl) (by kernel_rfl) (by kernel_rfl) ?_
        refine load_one 1 (by kernel_rfl : atP _ _ _ 1 true = some (Op.load 3 (tmpO 24), 3, some 25, Rg.sq (bitL 13 3055) 2)) (n := 1) (by kernel_rfl) rfl ?_
        intro L w1 hs
        refine ⟨.v (Value.int IntKind.i64 ((T[at_.toNat].kids)[i]'(by assumption))), rd_sc (rdRow_ext (hs.old 1 rfl) hr2_el1) (by assumption), ?_⟩
        clear hs
        refine go mixed 2000 [2, 20, 21, 22, 26, 27, 28] 1 (St.mk (Rg.sq (bitL 13 7151) 3) [KI.block 1, kCd (bitL 11 2031), kLp (bitL 8 239), KI.block 0, kCd (bitL 5 31)] [(2, vR 0 0), (20, vS (some a_2) T[at_.toNat].kids.length ckids_el1), (21, vI (↑T[at_.toNat].kids.length : Int)), (22, vI (↑i : Int)), (26, vS B (List.flatMap (collect T f) (List.take i T[at_.toNat].kids)).length d), (27, SV.agg [cS (some a_1) T.length c0, cI root]), (28, vI T[at_.toNat].kids[i])] [LB.mk [cS (some a_1) T.length c0, cI root] 29]) (by kernel_rfl) (by kernel_rfl) (by kernel_rfl) ?_
        refine call_fresh true (by kernel_rfl : atC _ _ _ true = some (59, [SV.agg [cS (some a_1) T.length c0, cI root], vI T[at_.toNat].kids[i]], some 29, Rg.sq (bitL 13 7151) 4)) (by kernel_rfl) fun L w1 hs => (ihf c _ _ _ _ c1 w1 hc1 hgc (rdRow_ext (hs.old 1 rfl) hT)).mono ?_
        rintro e w2 ⟨B2, d2, rfl, hf⟩
        refine ⟨.one (.v (.slice B2 (collect T f T[at_.toNat].kids[i]).length d2)), _, rfl, hf, ?_⟩
        clear hs hf
        refine h_swap ?_
        refine go mixed 2000 [2, 20, 21, 22, 26, 29] 1 (St.mk (Rg.sq (bitL 13 7151) 4) [KI.block 1, kCd (bitL 11 2031), kLp (bitL 8 239), KI.block 0, kCd (bitL 5 31)] [(2, vR 0 0), (20, vS (some a_2) T[at_.toNat].kids.length ckids_el1), (21, vI (↑T[at_.toNat].kids.length : Int)), (22, vI (↑i : Int)), (26, vS B (List.flatMap (collect T f) (List.take i T[at_.toNat].kids)).length d), (29, vS B2 (collect T f T[at_.toNat].kids[i]).length d2)] [LB.mk [cS (some a_1) T.length c0, cI root] 29]) (by kernel_rfl) (by kernel_rfl) (by kernel_rfl) ?_
        refine append_own (d := kEn) (by_ := 56) (by kernel_rfl : atB _ _ _ false = some (Op.call (Call.mk (Callee.builtin Builtin.append) #[tmpO 26, tmpO 29] #[34, 34]), 34, some 30, Rg.sq (bitL 13 7151) 5)) (by kernel_rfl) rfl rfl (by simp only [maxLen]; omega) (by omega) ?_
        intro B' d'
        have hlf : ((T[at_.toNat].kids.take i).flatMap (collect T f) ++ collect T f T[at_.toNat].kids[i]).length ≤ 4 * c1.1.length := by rw [List.length_append]; omega
        rw [flat_take hik] at hlf ⊢
        refine go mixed 2000 [2, 6, 20, 21, 22] 1 (St.mk Rg.no [kLp (bitL 8 239), KI.block 0, kCd (bitL 5 31)] [(2, vR 0 0), (6, vS B' (List.flatMap (collect T f) (List.take (i + 1) T[at_.toNat].kids)).length d'), (20, vS (some a_2) T[at_.toNat].kids.length ckids_el1), (21, vI (↑T[at_.toNat].kids.length : Int)), (22, vI (IntKind.i64.wrap ((↑i : Int) + 1)))] [LB.mk [cS (some a_1) T.length c0, cI root] 29]) (by kernel_rfl) (by kernel_rfl) (by kernel_rfl) ?_
        rw [wrap_succ (by omega)]
        exact ih (i + 1, c1, B', d') ⟨hik, hg1, hlf, hkr⟩ (by simp only; omega)
      · obtain rfl : i = T[at_.toNat].kids.length := by omega
        rw [List.take_length]
        refine go mixed 2000 [2, 6, 20, 21, 22, 23] 1 (St.mk Rg.no [kCd (bitL 10 495), kCd (bitL 10 1007), kLp (bitL 8 239), KI.block 0, kCd (bitL 5 31)] [(2, vR 0 0), (6, vS B (List.flatMap (collect T f) T[at_.toNat].kids).length d), (20, vS Akids_el1 T[at_.toNat].kids.length ckids_el1), (21, vI (↑T[at_.toNat].kids.length : Int)), (22, vI (↑T[at_.toNat].kids.length : Int)), (23, vB (decide ((↑T[at_.toNat].kids.length : Int) < (↑T[at_.toNat].kids.length : Int))))] [LB.mk [cS (some a_1) T.length c0, cI root] 29]) (by kernel_rfl) (by kernel_rfl) (by kernel_rfl) ?_
        refine split_at 23 (b := decide ((↑T[at_.toNat].kids.length : Int) < (↑T[at_.toNat].kids.length : Int))) (by kernel_rfl) (by kernel_rfl) ?_ ?_
        · intro hb1
          replace hb1 := of_decide_eq_true hb1
          (exfalso; omega)
        · intro hb1
          replace hb1 := of_decide_eq_false hb1
          refine go mixed 2000 [4] 0 (St.mk Rg.no [kCd (bitL 6 63)] [(4, vS B (List.flatMap (collect T f) T[at_.toNat].kids).length d)] []) (by kernel_rfl) (by kernel_rfl) (by kernel_rfl) ?_
          refine ret_ok (vs := [vS B (List.flatMap (collect T f) T[at_.toNat].kids).length d]) (by kernel_rfl) ?_
          intro L w1 hs
          rw [collect_in hlt nf_1]; exact ⟨_, _, rfl, hs.out (As := [_])⟩

theorem iTreeAll_ok (t : Tr) (cst : List Value) (w : World) (ht : kTr.rd w.heap t cst) (hz : zTr t ≤ 1048576) (hby : byTr t) :
    Calls Try.prog 20 #[.agg cst.toArray] w fun e w' => ∃ (B : Option Addr) (d : Nat), e = .returned (.slice B (allR t).length d) ∧ Fresh w w' [rowA 101 kEn (allR t) (.slice B (allR t).length d)] := by
  obtain ⟨Atnodes, ctnodes, rfl, hrtnodes⟩ := kTr_inv ht
  refine enter (args := [.agg [.v (.slice Atnodes t.nodes.length ctnodes), .v (.int .i64 t.root)]]) Try.func20 (c := bodyOf Try.f20) rfl rfl (start_LOK _) (start_old w) ?_
  have hzz : zTr t = zRow zNd t.nodes := rfl
  have hz1 : zRow zNd t.nodes = t.nodes.length + (t.nodes.map zNd).sum := rfl
  have hsz2 : ∀ n ∈ t.nodes, n.entries.length ≤ 1048576 ∧ n.kids.length ≤ 1048576 := fun n hn => by
    have h1 := z_le zNd t.nodes hn
    have h2 : zNd n = (n.entries.length + (n.entries.map zEn).sum) + n.kids.length := rfl
    omega
  have hkl := key_le hz
  refine go mixed 2000 [1, 3] 1 (St.mk (Rg.sq (bitL 3 1) 1) [kCd (bitL 3 5), KI.code [true, true]] [(1, vR 0 0), (3, SV.agg [cS Atnodes t.nodes.length ctnodes, cI t.root])] [LB.mk [cS Atnodes t.nodes.length ctnodes, cI t.root] 29]) (by kernel_rfl) (by kernel_rfl) (by kernel_rfl) ?_
  refine call_pure true (by kernel_rfl : atC _ _ _ true = some (15, [SV.agg [cS Atnodes t.nodes.length ctnodes, cI t.root]], some 4, Rg.sq (bitL 3 1) 2)) (by kernel_rfl) (.one (.bo (treeOk t))) (fun L w1 hs => (Go.Proofs.Ytgleoebogikooaa.Dk.iTreeOk_ok (t) ([Value.slice Atnodes t.nodes.length ctnodes, Value.int IntKind.i64 t.root]) w1 (Go.Proofs.Ytgleoebogikooaa.Dk.kTr_mk (rdRow_ext (hs.old 0 rfl) hrtnodes)) (by assumption) (by assumption))) ?_
  refine go mixed 2000 [1, 5] 1 (St.mk Rg.no [kCd (bitL 3 5), KI.code [true, true]] [(1, vR 0 0), (5, vB !treeOk t)] [LB.mk [cS Atnodes t.nodes.length ctnodes, cI t.root] 29]) (by kernel_rfl) (by kernel_rfl) (by kernel_rfl) ?_
  refine split_at 5 (b := !treeOk t) (by kernel_rfl) (by kernel_rfl) ?_ ?_
  · intro hb1
    try simp only [decide_eq_true_eq, decide_eq_false_iff_not, Bool.not_eq_true', Bool.not_eq_false', Bool.and_eq_true, Bool.or_eq_true, Bool.and_eq_false_imp, bne_iff_ne, beq_iff_eq, bne_eq_false_iff_eq, beq_eq_false_iff_ne, ne_eq, Decidable.not_not, Int.not_le, Int.not_lt, Nat.not_le, Nat.not_lt] at hb1
    refine go mixed 2000 [2] 0 (St.mk Rg.no [kCd (bitL 5 21), KI.code [true, true]] [(2, vS none 0 0)] []) (by kernel_rfl) (by kernel_rfl) (by kernel_rfl) ?_
    refine ret_ok (vs := [vS none 0 0]) (by kernel_rfl) ?_
    intro L w1 hs
    rw [all_no (by first | assumption | rfl) (by assumption)]; exact ⟨none, 0, rfl, hs.out1 rowA_nil⟩
  intro hb1
  try simp only [decide_eq_true_eq, decide_eq_false_iff_not, Bool.not_eq_true', Bool.not_eq_false', Bool.and_eq_true, Bool.or_eq_true, Bool.and_eq_false_imp, bne_iff_ne, beq_iff_eq, bne_eq_false_iff_eq, beq_eq_false_iff_ne, ne_eq, Decidable.not_not, Int.not_le, Int.not_lt, Nat.not_le, Nat.not_lt] at hb1
  refine go mixed 2000 [6, 8] 0 (St.mk (Rg.sq (bitL 3 3) 3) [kCd (bitL 3 7)] [(6, SV.agg [cS Atnodes t.nodes.length ctnodes, cI t.root]), (8, vI t.root)] []) (by kernel_rfl) (by kernel_rfl) (by kernel_rfl) ?_
  have htr : treeOk t = true := by simp_all
  obtain ⟨x, hx⟩ := treeOk_R htr
  have hn300 : t.nodes.length ≤ 300 := by
    unfold treeOk at htr
    simp only [Bool.and_eq_true, decide_eq_true_eq] at htr
    omega
  refine call_fresh true (by kernel_rfl : atC _ _ _ true = some (59, [SV.agg [cS Atnodes t.nodes.length ctnodes, cI t.root], vI t.root], some 9, Rg.sq (bitL 3 3) 4)) (by kernel_rfl) fun L w1 hs => (iAll_ok t.nodes Atnodes ctnodes t.root hkl hn300 hsz2 _ _ _ _ _ _ x w1 hx ⟨List.nodup_nil, fun x hx => by simp at hx⟩ (rdRow_ext (hs.old 0 rfl) hrtnodes)).mono ?_
  rintro e w2 ⟨B2, d2, rfl, hf⟩
  refine ⟨.one (.v (.slice B2 (collect t.nodes (t.nodes.length + 1) t.root).length d2)), _, rfl, hf, ?_⟩
  clear hs hf
  refine go mixed 2000 [2] 0 (St.mk Rg.no [kCd (bitL 3 7)] [(2, vS B2 (collect t.nodes (t.nodes.length + 1) t.root).length d2)] []) (by kernel_rfl) (by kernel_rfl) (by kernel_rfl) ?_
  refine ret_ok (vs := [vS B2 (collect t.nodes (t.nodes.length + 1) t.root).length d2]) (by kernel_rfl) ?_
  intro L w1 hs
  rw [all_yes rfl htr]; exact ⟨_, _, rfl, hs.out (As := [_])⟩

theorem sTreeAll_ok (t : Tr) (cst : List Value) (w : World) (ht : kTr.rd w.heap t cst) (hz : zTr t ≤ 1048576) (hby : byTr t) :
    Calls Try.prog 19 #[.agg cst.toArray] w fun e w' => ∃ (B : Option Addr) (d : Nat), e = .returned (.slice B (allR t).length d) ∧ Fresh w w' [rowA 101 kEn (allR t) (.slice B (allR t).length d)] := by
  obtain ⟨Atnodes, ctnodes, rfl, hrtnodes⟩ := kTr_inv ht
  refine enter (args := [.agg [.v (.slice Atnodes t.nodes.length ctnodes), .v (.int .i64 t.root)]]) Try.func19 (c := bodyOf Try.f19) rfl rfl (start_LOK _) (start_old w) ?_
  have hzz : zTr t = zRow zNd t.nodes := rfl
  have hz1 : zRow zNd t.nodes = t.nodes.length + (t.nodes.map zNd).sum := rfl
  have hsz2 : ∀ n ∈ t.nodes, n.entries.length ≤ 1048576 ∧ n.kids.length ≤ 1048576 := fun n hn => by
    have h1 := z_le zNd t.nodes hn
    have h2 : zNd n = (n.entries.length + (n.entries.map zEn).sum) + n.kids.length := rfl
    omega
  have hkl := key_le hz
  refine go mixed 2000 [6] 0 (St.mk (Rg.sq [true, false] 1) [KI.code [true, true]] [(6, SV.agg [cS Atnodes t.nodes.length ctnodes, cI t.root])] []) (by kernel_rfl) (by kernel_rfl) (by kernel_rfl) ?_
  refine call_at true (by kernel_rfl : atC _ _ _ true = some (53, [SV.agg [cS Atnodes t.nodes.length ctnodes, cI t.root]], some 7, Rg.sq [true, false] 2)) (by kernel_rfl) (fun L w1 hs => (l11look_at t _ w1 w ht hs.1.1.size (hs.old 0 rfl) hz hby).mono ?_)
  rintro e w2 ⟨g_1, k_1, b_1, rfl, hf_, hq1, hq2⟩
  refine ⟨.one (.v (.tuple #[.pointer (some ⟨g_1, 0, none⟩), .bool b_1])), _, _, rfl, fun _ => hf_.1.block, hs.fresh hf_, ?_⟩
  clear hs hf_
  refine go mixed 2000 [3, 11] 0 (St.mk Rg.no [kCd (bitL 4 11), kCd (bitL 3 7)] [(3, vP (Addr.mk g_1 0 none)), (11, vB !b_1)] []) (by kernel_rfl) (by kernel_rfl) (by kernel_rfl) ?_
  refine split_at 11 (b := !b_1) (by kernel_rfl) (by kernel_rfl) ?_ ?_
  · intro hb1
    try simp only [decide_eq_true_eq, decide_eq_false_iff_not, Bool.not_eq_true', Bool.not_eq_false', Bool.and_eq_true, Bool.or_eq_true, Bool.and_eq_false_imp, bne_iff_ne, beq_iff_eq, bne_eq_false_iff_eq, beq_eq_false_iff_ne, ne_eq, Decidable.not_not, Int.not_le, Int.not_lt, Nat.not_le, Nat.not_lt] at hb1
    refine go mixed 2000 [2] 0 (St.mk Rg.no [kCd (bitL 6 43), kCd (bitL 3 7)] [(2, vS none 0 0)] []) (by kernel_rfl) (by kernel_rfl) (by kernel_rfl) ?_
    refine ret_ok (vs := [vS none 0 0]) (by kernel_rfl) ?_
    intro L w1 hs
    rw [all_no (by first | assumption | rfl) (by assumption)]; exact ⟨none, 0, rfl, (hs.erases [0, 0, 0]).out1 rowA_nil⟩
  intro hb1
  try simp only [decide_eq_true_eq, decide_eq_false_iff_not, Bool.not_eq_true', Bool.not_eq_false', Bool.and_eq_true, Bool.or_eq_true, Bool.and_eq_false_imp, bne_iff_ne, beq_iff_eq, bne_eq_false_iff_eq, beq_eq_false_iff_ne, ne_eq, Decidable.not_not, Int.not_le, Int.not_lt, Nat.not_le, Nat.not_lt] at hb1
  refine go mixed 2000 [14] 0 (St.mk (Rg.sq (bitL 4 7) 3) [kCd (bitL 4 15)] [(14, vP ((Addr.mk g_1 0 none).add 3))] []) (by kernel_rfl) (by kernel_rfl) (by kernel_rfl) ?_
  have hbt : b_1 = true := by simp_all
  obtain ⟨x, hx, _, ha, hcl⟩ := hq2 hbt
  have hal := all_yes hq1 hbt
  have hlen := ha.1
  have hn300 : t.nodes.length ≤ 300 := by
    have htr : treeOk t = true := hq1 ▸ hbt
    unfold treeOk at htr
    simp only [Bool.and_eq_true, decide_eq_true_eq] at htr
    omega
  refine load_one 3 (by kernel_rfl : atP _ _ _ 3 true = some (Op.load 34 (tmpO 14), 34, some 15, Rg.sq (bitL 4 7) 4)) (n := 1) (by kernel_rfl) rfl ?_
  intro L w1 hs
  obtain ⟨_, _, _, hblk⟩ := hs.at_ 0 rfl
  refine ⟨.v (.slice k_1.B k_1.css.length k_1.c), blk_at hblk 3 rfl, ?_⟩
  clear hs hblk
  refine go mixed 2000 [15] 0 (St.mk (Rg.sq (bitL 4 7) 4) [kCd (bitL 4 15)] [(15, vS k_1.6 k_1.css.length k_1.c)] []) (by kernel_rfl) (by kernel_rfl) (by kernel_rfl) ?_
  refine call_fresh true (by kernel_rfl : atC _ _ _ true = some (58, [vS k_1.6 k_1.css.length k_1.c], some 16, Rg.sq (bitL 4 7) 5)) (by kernel_rfl) fun L w1 hs => (sCopyEs_ok (collect t.nodes (t.nodes.length + 1) t.root) _ w1 (cells_row (hs.rd 2 rfl) ha.1 (fun i y cs h1 h2 => kEn.ext (hs.old 3 rfl) (ha.2 i y cs h1 h2))) (by omega) (fun y hy => by obtain ⟨n, hn, he⟩ := collect_mem _ _ _ hy; exact hkl n hn y he)).mono ?_
  rintro e w2 ⟨B2, d2, rfl, hf⟩
  refine ⟨.one (.v (.slice B2 (collect t.nodes (t.nodes.length + 1) t.root).length d2)), _, rfl, hf, ?_⟩
  clear hs hf
  refine h_erase 1 _ rfl ?_
  refine h_erase 1 _ rfl ?_
  refine h_erase 1 _ rfl ?_
  refine go mixed 2000 [2] 0 (St.mk Rg.no [kCd (bitL 4 15)] [(2, vS B2 (collect t.nodes (t.nodes.length + 1) t.root).length d2)] []) (by kernel_rfl) (by kernel_rfl) (by kernel_rfl) ?_
  refine ret_ok (vs := [vS B2 (collect t.nodes (t.nodes.length + 1) t.root).length d2]) (by kernel_rfl) ?_
  intro L w1 hs
  rw [hal]; exact ⟨_, _, rfl, hs.out (As := [_])⟩

end Go.Proofs.Ytgleoebogikooaa.Dk
