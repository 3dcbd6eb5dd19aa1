/- Walks of functions of the program: what each call returns and what it leaves in memory. Conditions: those that each theorem names. -/
import Derived.Test.YtgleoebogikooaaN2
namespace Go.Proofs.Ytgleoebogikooaa.Dk
set_option linter.unusedVariables false
set_option linter.unusedSimpArgs false
open Go.Proofs.Ytgleoebogikooaa.Sx Go.Proofs Go.RowKit
set_option maxRecDepth 100000
set_option maxHeartbeats 1000000
theorem cmpI_neg (a b : Int) : cmpI b a = -cmpI a b := by
  unfold cmpI
  by_cases h1 : a < b
  · rw [if_pos h1, if_neg (by omega), if_pos h1] <;> rfl
  · by_cases h2 : b < a
    · rw [if_pos h2, if_neg h1, if_pos h2] <;> rfl
    · rw [if_neg h2, if_neg h1, if_neg h1, if_neg h2] <;> rfl
theorem cmpB_neg : ∀ (xs ys : List Int), cmpB ys xs = -cmpB xs ys
  | [], [] => rfl
  | [], _ :: _ => rfl
  | _ :: _, [] => rfl
  | x :: xs, y :: ys => by
    simp only [cmpB]
    by_cases h1 : x < y
    · rw [if_pos h1, if_neg (by omega), if_pos h1] <;> rfl
    · by_cases h2 : y < x
      · rw [if_pos h2, if_neg h1, if_pos h2] <;> rfl
      · rw [if_neg h2, if_neg h1, if_neg h1, if_neg h2]
        exact cmpB_neg xs ys
theorem orI_neg : ∀ (l : List Int), orI (l.map fun x => -x) = -orI l
  | [] => rfl
  | x :: r => by
    simp only [List.map_cons, orI]
    by_cases h : x = 0
    · rw [if_pos (by omega), if_pos h]; exact orI_neg r
    · rw [if_neg (by omega), if_neg h]
theorem cmpIt_neg (a b : It) : cmpIt b a = -cmpIt a b := by
  unfold cmpIt
  rw [← orI_neg]
  simp only [List.map_cons, List.map_nil]
  rw [cmpI_neg a.kind, cmpI_neg a.n, cmpI_neg (fRank a.f), cmpB_neg a.t]
theorem span_self {k x : It} (hx : keyOk x = true) : inSpan k k x = (keyOk k && decide (cmpIt x k = 0)) := by
  unfold inSpan
  rw [hx, cmpIt_neg x k]
  cases keyOk k with
  | false => rfl
  | true =>
    simp only [Bool.true_and]
    rw [Bool.eq_iff_iff]
    simp only [Bool.and_eq_true, decide_eq_true_eq]
    omega
theorem entOk_key {e : En} (h : entOk e = true) : keyOk e.key = true := by
  unfold entOk at h
  simp only [Bool.and_eq_true] at h
  exact h.1
theorem kidsF_ok {T : List Nd} {f : Nat} {dp : Int} (hc : ∀ s k lo hi s', chk T f s k dp lo hi = some s' → ∀ x ∈ collect T f k, entOk x = true) {n : Nd} {lo hi : Option En} :
    ∀ (l : List Int) (i : Nat) (s s' : CS), kidsF (fun s k lo hi => chk T f s k dp lo hi) n lo hi l i s = some s' → ∀ x ∈ l.flatMap (collect T f), entOk x = true
  | [], i, s, s', _, x, hx => by simp at hx
  | k :: r, i, s, s', h, x, hx => by
    obtain ⟨s1, h1, h2⟩ := kidsF_step h
    rw [List.flatMap_cons] at hx
    rcases List.mem_append.1 hx with hx | hx
    · exact hc _ _ _ _ _ h1 x hx
    · exact kidsF_ok hc r (i + 1) s1 s' h2 x hx
theorem collect_ok {T : List Nd} : ∀ (f : Nat) (s : CS) (at_ dp : Int) (lo hi : Option En) (s' : CS), chk T f s at_ dp lo hi = some s' → ∀ x ∈ collect T f at_, entOk x = true
  | 0, _, _, _, _, _, _, h, _, _ => by cases h
  | f + 1, s, at_, dp, lo, hi, s', h, x, hx => by
    obtain ⟨hlt, h0, hno, ⟨hl, hq, rfl⟩ | ⟨hl, h⟩⟩ := chk_open h
    · rw [collect_leaf hlt hl] at hx
      exact List.all_eq_true.1 (nodeOk_parts hno).1 x hx
    · rw [collect_in hlt hl] at hx
      exact kidsF_ok (fun s k lo hi s' h => collect_ok f s k (dp + 1) lo hi s' h) _ _ _ _ h x hx
theorem allR_ok {t : Tr} {x : En} (h : x ∈ allR t) : entOk x = true := by
  unfold allR at h
  split at h
  · rename_i ht
    obtain ⟨s, hs⟩ := treeOk_R ht
    exact collect_ok _ _ _ _ _ _ _ hs x h
  · simp at h
def findR (t : Tr) (k : It) : List Int := (spanR t k k).map En.id
theorem find_no {t : Tr} {k : It} (h : keyOk k = false) : findR t k = [] := by
  unfold findR spanR
  rw [List.map_eq_nil_iff, List.filter_eq_nil_iff]
  intro x hx
  rw [span_self (entOk_key (allR_ok hx)), h]
  simp
theorem find_len (t : Tr) (k : It) : (findR t k).length ≤ (allR t).length := by
  unfold findR
  rw [List.length_map]
  exact List.length_filter_le _ _
theorem ids_step {l : List (En × EC)} {i : Nat} (h : i < l.length) (hid : l[i].2.id = l[i].1.id) : (l.take i).map (fun p => p.1.id) ++ [l[i].2.id] = (l.take (i + 1)).map fun p => p.1.id := by
  rw [List.take_succ_eq_append_getElem h, List.map_append, hid]
  rfl
theorem idf_step {l : List (En × EC)} {q : En × EC → Bool} {i : Nat} (h : i < l.length) (hq : q l[i] = true) (hid : l[i].2.id = l[i].1.id) : ((l.take i).filter q).map (fun p => p.1.id) ++ [l[i].2.id] = ((l.take (i + 1)).filter q).map fun p => p.1.id := by
  rw [List.take_succ_eq_append_getElem h, List.filter_append, List.map_append, hid]
  simp [hq]
theorem idf_skip {l : List (En × EC)} {q : En × EC → Bool} {i : Nat} (h : i < l.length) (hq : q l[i] = false) : ((l.take i).filter q).map (fun p => p.1.id) = ((l.take (i + 1)).filter q).map fun p => p.1.id := by
  rw [List.take_succ_eq_append_getElem h, List.filter_append, List.map_append]
  simp [hq]
theorem idf_len {l : List (En × EC)} {q : En × EC → Bool} (i : Nat) : (((l.take i).filter q).map (fun p => p.1.id)).length ≤ l.length := by
  rw [List.length_map]
  exact Nat.le_trans (List.length_filter_le _ _) (by rw [List.length_take]; omega)
theorem iTreeFind_ok (t : Tr) (cst : List Value) (k : It) (csk : List Value) (w : World) (ht : kTr.rd w.heap t cst) (hk : kIt.rd w.heap k csk) (hz : zTr t ≤ 1048576) (hby : byTr t) (pk : byOk k.t) (lk_ : k.t.length ≤ 1048576) :
    Calls Try.prog 28 #[.agg cst.toArray, .agg csk.toArray] w fun e w' => ∃ (B : Option Addr) (d : Nat), e = .returned (.slice B (findR t k).length d) ∧ Fresh w w' [rowA 3 kI64 (findR t k) (.slice B (findR t k).length d)] := by
  obtain ⟨Atnodes, ctnodes, rfl, hrtnodes⟩ := kTr_inv ht
  obtain ⟨bkf, Akt, ckt, rfl, hbkf, hfkf, hrkt⟩ := kIt_inv hk
  refine enter (args := [.agg [.v (.slice Atnodes t.nodes.length ctnodes), .v (.int .i64 t.root)], .agg [.v (.int .i64 k.kind), .v (.int .i64 k.n), .v (.float .f64 bkf), .v (.slice Akt k.t.length ckt)]]) Try.func28 (c := bodyOf Try.f28) rfl rfl (start_LOK _) (start_old w) ?_
  have hkl := key_le hz
  have hzz : zTr t = zRow zNd t.nodes := rfl
  have hz1 : zRow zNd t.nodes = t.nodes.length + (t.nodes.map zNd).sum := rfl
  have hal := allR_len t
  have hak : ∀ x ∈ allR t, x.key.t.length ≤ 1048576 := fun x hx => by
    obtain ⟨n, hn, he⟩ := allR_mem hx
    exact hkl n hn x he
  have hab : ∀ x ∈ allR t, byOk x.key.t := fun x hx => by
    obtain ⟨n, hn, he⟩ := allR_mem hx
    exact hby n hn x he
  have hal3 : (allR t).length ≤ 1048576 := by
    unfold allR
    split
    · rename_i h
      unfold allR at hal
      rw [if_pos h] at hal
      unfold treeOk at h
      simp only [Bool.and_eq_true, decide_eq_true_eq] at h
      omega
    · simp
  have hsl_ : (spanR t k k).length ≤ (allR t).length := List.length_filter_le _ _
  refine go mixed 2000 [5, 8, 9, 10] 0 (St.mk (Rg.sq (bitL 4 3) 3) [kCd (bitL 4 11), kCd (bitL 3 7)] [(5, vS none 0 0), (8, SV.agg [cS Atnodes t.nodes.length ctnodes, cI t.root]), (9, SV.agg [cI k.kind, cI k.n, cF bkf, cS Akt k.t.length ckt]), (10, SV.agg [cI k.kind, cI k.n, cF bkf, cS Akt k.t.length ckt])] []) (by kernel_rfl) (by kernel_rfl) (by kernel_rfl) ?_
  refine call_at true (by kernel_rfl : atC _ _ _ true = some (35, [SV.agg [cS Atnodes t.nodes.length ctnodes, cI t.root], SV.agg [cI k.kind, cI k.n, cF bkf, cS Akt k.t.length ckt], SV.agg [cI k.kind, cI k.n, cF bkf, cS Akt k.t.length ckt]], some 11, Rg.sq (bitL 4 3) 4)) (by kernel_rfl) (fun L w1 hs => (Go.Proofs.Ytgleoebogikooaa.Dk.iTreeSpan_ok (t) ([Value.slice Atnodes t.nodes.length ctnodes, Value.int IntKind.i64 t.root]) (k) ([Value.int IntKind.i64 k.kind, Value.int IntKind.i64 k.n, Value.float FloatKind.f64 bkf, Value.slice Akt k.t.length ckt]) (k) ([Value.int IntKind.i64 k.kind, Value.int IntKind.i64 k.n, Value.float FloatKind.f64 bkf, Value.slice Akt k.t.length ckt]) w1 (Go.Proofs.Ytgleoebogikooaa.Dk.kTr_mk (rdRow_ext (hs.old 0 rfl) hrtnodes)) (Go.Proofs.Ytgleoebogikooaa.Dk.kIt_mk (by assumption) hfkf (rdRow_ext (hs.old 0 rfl) hrkt)) (Go.Proofs.Ytgleoebogikooaa.Dk.kIt_mk (by assumption) hfkf (rdRow_ext (hs.old 0 rfl) hrkt)) (by assumption) (by assumption) (by assumption) (by assumption) (by assumption) (by assumption)).mono ?_)
  rintro e_ w2_ ⟨B_1, d_1, rfl, hf_⟩
  refine ⟨.one (.v (Value.slice B_1 (spanR t k k).length d_1)), _, _, rfl, fun _ => hf_.1.block, hs.fresh hf_, ?_⟩
  clear hs hf_
  refine go mixed 2000 [5, 11, 12, 13] 0 (St.mk Rg.no [kLp (bitL 6 59), KI.block 0, kCd (bitL 3 7)] [(5, vS none 0 0), (11, vS B_1 (spanR t k k).length d_1), (12, vI (↑(spanR t k k).length : Int)), (13, vI 0)] []) (by kernel_rfl) (by kernel_rfl) (by kernel_rfl) ?_
  refine h_apart EC.len EC.one (f := EC.cs) (n := 5) rfl kEn_ec (fun l hl1 hrel2 => ?_)
  have hlen : (spanR t k k).length = (l.map Prod.snd).length := by rw [← hl1, List.length_map, List.length_map]
  have hln : l.length = (spanR t k k).length := by rw [← hl1, List.length_map]
  have hmem : ∀ p ∈ l, p.1 ∈ spanR t k k := fun p hp => by rw [← hl1]; exact List.mem_map_of_mem hp
  rw [hlen]
  refine h_nil 3 kI64 ?_
  refine go mixed 2000 [5, 11, 12, 13] 0 (St.mk Rg.no [kLp (bitL 6 59), KI.block 0, kCd (bitL 3 7)] [(5, vS none 0 0), (11, vS B_1 (List.map Prod.snd l).length d_1), (12, vI (↑(List.map Prod.snd l).length : Int)), (13, vI 0)] []) (by kernel_rfl) (by kernel_rfl) (by kernel_rfl) ?_
  refine loop_at (ι := Nat × Option Addr × Nat) (fun s => [(13, .one (.v (.int .i64 s.1))), (5, .one (.v (.slice s.2.1 ((l.take s.1).map fun p => p.1.id).length s.2.2)))]) (fun _ => []) (fun s => [rowA 3 kI64 ((l.take s.1).map fun p => p.1.id) (.slice s.2.1 ((l.take s.1).map fun p => p.1.id).length s.2.2), rowA 101 kEC (l.map Prod.snd) (.slice B_1 (l.map Prod.snd).length d_1), hangA kEn EC.cs l, oldA w]) (fun s => s.1 ≤ l.length) (fun s => l.length - s.1) (0, none, 0) rfl rfl rfl (Nat.zero_le _) ?_
  rintro ⟨i, B, d⟩ hi ih
  simp only at hi ih ⊢
  have ho1 : ((l.take i).map fun p => p.1.id).length ≤ l.length := by rw [List.length_map, List.length_take]; omega
  rcases Nat.lt_or_ge i l.length with hlt | hge
  · have hlt2 : i < (l.map Prod.snd).length := by rw [List.length_map]; exact hlt
    have hget : (l.map Prod.snd)[i]? = some l[i].2 := by simp [hlt]
    refine go mixed 2000 [5, 11, 12, 13, 14] 0 (St.mk Rg.no [kCd (bitL 8 123), kCd (bitL 8 251), kLp (bitL 6 59), KI.block 0, kCd (bitL 3 7)] [(5, vS B (List.map (fun p => p.fst.id) (List.take i l)).length d), (11, vS B_1 (List.map Prod.snd l).length d_1), (12, vI (↑(List.map Prod.snd l).length : Int)), (13, vI (↑i : Int)), (14, vB (decide ((↑i : Int) < (↑(List.map Prod.snd l).length : Int))))] []) (by kernel_rfl) (by kernel_rfl) (by kernel_rfl) ?_
    refine split_at 14 (b := decide ((↑i : Int) < (↑(List.map Prod.snd l).length : Int))) (by kernel_rfl) (by kernel_rfl) ?_ ?_
    rotate_left
    · intro hb1
      replace hb1 := of_decide_eq_false hb1
      (exfalso; omega)
    intro hb1
    replace hb1 := of_decide_eq_true hb1
    refine go mixed 2000 [5, 11, 12, 13] 0 (St.mk (Rg.sq (bitL 11 763) 0) [kCd (bitL 11 1787), KI.block 1, kCd (bitL 9 507), kLp (bitL 6 59), KI.block 0, kCd (bitL 3 7)] [(5, vS B (List.map (fun p => p.fst.id) (List.take i l)).length d), (11, vS B_1 (List.map Prod.snd l).length d_1), (12, vI (↑(List.map Prod.snd l).length : Int)), (13, vI (↑i : Int))] []) (by kernel_rfl) (by kernel_rfl) (by kernel_rfl) ?_
    refine index_at 0 (by kernel_rfl : atP _ _ _ 0 false = some (Op.indexAddr 34 (tmpO 11) (tmpO 13), 0, some 15, Rg.sq (bitL 11 763) 1)) (ni := i) (sz := 5) (by kernel_rfl) rfl rfl rfl (by assumption) (fun L w1 hs => rd_some (i := i) (hs.rd 1 rfl) (by assumption)) ?_
    intro a_1 ha_1
    cases ha_1
    refine go mixed 2000 [5, 11, 12, 13, 15] 0 (St.mk (Rg.sq (bitL 11 763) 1) [kCd (bitL 11 1787), KI.block 1, kCd (bitL 9 507), kLp (bitL 6 59), KI.block 0, kCd (bitL 3 7)] [(5, vS B (List.map (fun p => p.fst.id) (List.take i l)).length d), (11, vS (some a_1) (List.map Prod.snd l).length d_1), (12, vI (↑(List.map Prod.snd l).length : Int)), (13, vI (↑i : Int)), (15, vP (a_1.add (i * 5)))] []) (by kernel_rfl) (by kernel_rfl) (by kernel_rfl) ?_
    refine load_agg 1 (by kernel_rfl : atP _ _ _ 1 true = some (Op.load 101 (tmpO 15), 101, some 16, Rg.sq (bitL 11 763) 2)) (n := 5) (by kernel_rfl) rfl ?_
    intro L w1 hs
    refine ⟨EC.scs l[i].2, rfl, cells_at0 (scs := EC.scs l[i].2) (ec_at (hs.rd 1 rfl) hget) rfl, ?_⟩
    clear hs
    unfold EC.scs
    refine go mixed 2000 [11, 12, 13, 17, 20] 2 (St.mk (Rg.sq (bitL 11 1787) 4) [KI.block 1, kCd (bitL 9 507), kLp (bitL 6 59), KI.block 0, kCd (bitL 3 7)] [(11, vS (some a_1) (List.map Prod.snd l).length d_1), (12, vI (↑(List.map Prod.snd l).length : Int)), (13, vI (↑i : Int)), (17, vS B (List.map (fun p => p.fst.id) (List.take i l)).length d), (20, SV.one (SC.sl 1 0 1 1))] [LB.mk [cI l[i].snd.kind, cI l[i].snd.n, cF l[i].snd.b, cS l[i].snd.5 l[i].snd.m l[i].snd.d, cI l[i].snd.id] 101, LB.mk [cI l[i].snd.id] 3]) (by kernel_rfl) (by kernel_rfl) (by kernel_rfl) ?_
    refine h_conseq (fun L w hs => ⟨_, hs.triv (A := elA kI64 l[i].2.id [.int .i64 l[i].2.id]) rfl, ?_⟩)
    refine h_swap ?_
    refine append_lit (d := kI64) (y := l[i].2.id) (by_ := 8) (by kernel_rfl : atB _ _ _ false = some (Op.call (Call.mk (Callee.builtin Builtin.append) #[tmpO 17, tmpO 20] #[44, 44]), 44, some 21, Rg.sq (bitL 11 1787) 5)) (by kernel_rfl) rfl rfl rfl rfl (by simp only [maxLen]; omega) (by omega) ?_
    intro B' d'
    rw [ids_step hlt (hrel2 _ (List.getElem_mem hlt)).2]
    refine go mixed 2000 [5, 11, 12, 13] 0 (St.mk Rg.no [kLp (bitL 6 59), KI.block 0, kCd (bitL 3 7)] [(5, vS B' (List.map (fun p => p.fst.id) (List.take (i + 1) l)).length d'), (11, vS (some a_1) (List.map Prod.snd l).length d_1), (12, vI (↑(List.map Prod.snd l).length : Int)), (13, vI (IntKind.i64.wrap ((↑i : Int) + 1)))] []) (by kernel_rfl) (by kernel_rfl) (by kernel_rfl) ?_
    rw [wrap_succ (by omega)]
    exact ih (i + 1, B', d') hlt (by simp only; omega)
  · obtain rfl : i = l.length := by omega
    have hge2 : (l.map Prod.snd).length ≤ l.length := by rw [List.length_map]; omega
    have hfin : l.map (fun p => p.1.id) = findR t k := by unfold findR; rw [← hl1, List.map_map]; rfl
    rw [List.take_length, hfin]
    refine h_erase 1 _ rfl ?_
    refine h_erase 1 _ rfl ?_
    refine go mixed 2000 [5, 11, 12, 13, 14] 0 (St.mk Rg.no [kCd (bitL 8 123), kCd (bitL 8 251), kLp (bitL 6 59), KI.block 0, kCd (bitL 3 7)] [(5, vS B (findR t k).length d), (11, vS B_1 (List.map Prod.snd l).length d_1), (12, vI (↑(List.map Prod.snd l).length : Int)), (13, vI (↑l.length : Int)), (14, vB (decide ((↑l.length : Int) < (↑(List.map Prod.snd l).length : Int))))] []) (by kernel_rfl) (by kernel_rfl) (by kernel_rfl) ?_
    refine split_at 14 (b := decide ((↑l.length : Int) < (↑(List.map Prod.snd l).length : Int))) (by kernel_rfl) (by kernel_rfl) ?_ ?_
    · intro hb1
      replace hb1 := of_decide_eq_true hb1
      (exfalso; omega)
    · intro hb1
      replace hb1 := of_decide_eq_false hb1
      refine go mixed 2000 [4] 0 (St.mk Rg.no [kCd (bitL 4 15)] [(4, vS B (findR t k).length d)] []) (by kernel_rfl) (by kernel_rfl) (by kernel_rfl) ?_
      refine ret_ok (vs := [vS B (findR t k).length d]) (by kernel_rfl) ?_
      intro L w1 hs
      exact ⟨_, _, rfl, hs.out (As := [_])⟩

theorem sTreeFind_ok (t : Tr) (cst : List Value) (k : It) (csk : List Value) (w : World) (ht : kTr.rd w.heap t cst) (hk : kIt.rd w.heap k csk) (hz : zTr t ≤ 1048576) (hby : byTr t) (pk : byOk k.t) (lk_ : k.t.length ≤ 1048576) :
    Calls Try.prog 26 #[.agg cst.toArray, .agg csk.toArray] w fun e w' => ∃ (B : Option Addr) (d : Nat), e = .returned (.slice B (findR t k).length d) ∧ Fresh w w' [rowA 3 kI64 (findR t k) (.slice B (findR t k).length d)] := by
  obtain ⟨Atnodes, ctnodes, rfl, hrtnodes⟩ := kTr_inv ht
  obtain ⟨bkf, Akt, ckt, rfl, hbkf, hfkf, hrkt⟩ := kIt_inv hk
  refine enter (args := [.agg [.v (.slice Atnodes t.nodes.length ctnodes), .v (.int .i64 t.root)], .agg [.v (.int .i64 k.kind), .v (.int .i64 k.n), .v (.float .f64 bkf), .v (.slice Akt k.t.length ckt)]]) Try.func26 (c := bodyOf Try.f26) rfl rfl (start_LOK _) (start_old w) ?_
  have hkl := key_le hz
  have hzz : zTr t = zRow zNd t.nodes := rfl
  have hz1 : zRow zNd t.nodes = t.nodes.length + (t.nodes.map zNd).sum := rfl
  have hal := allR_len t
  have hak : ∀ x ∈ allR t, x.key.t.length ≤ 1048576 := fun x hx => by
    obtain ⟨n, hn, he⟩ := allR_mem hx
    exact hkl n hn x he
  have hab : ∀ x ∈ allR t, byOk x.key.t := fun x hx => by
    obtain ⟨n, hn, he⟩ := allR_mem hx
    exact hby n hn x he
  have hal3 : (allR t).length ≤ 1048576 := by
    unfold allR
    split
    · rename_i h
      unfold allR at hal
      rw [if_pos h] at hal
      unfold treeOk at h
      simp only [Bool.and_eq_true, decide_eq_true_eq] at h
      omega
    · simp
  refine go mixed 2000 [2, 3, 5, 8] 2 (St.mk (Rg.sq (bitL 4 3) 1) [kCd (bitL 4 11), kCd (bitL 3 7)] [(2, vR 0 0), (3, vR 1 0), (5, vS none 0 0), (8, SV.agg [cI k.kind, cI k.n, cF bkf, cS Akt k.t.length ckt])] [LB.mk [cS Atnodes t.nodes.length ctnodes, cI t.root] 29, LB.mk [cI k.kind, cI k.n, cF bkf, cS Akt k.t.length ckt] 46]) (by kernel_rfl) (by kernel_rfl) (by kernel_rfl) ?_
  refine call_pure true (by kernel_rfl : atC _ _ _ true = some (65, [SV.agg [cI k.kind, cI k.n, cF bkf, cS Akt k.t.length ckt]], some 9, Rg.sq (bitL 4 3) 2)) (by kernel_rfl) (.one (.bo (keyOk k))) (fun L w1 hs => (Go.Proofs.Ytgleoebogikooaa.Dk.sKeyOk_ok (k) ([Value.int IntKind.i64 k.kind, Value.int IntKind.i64 k.n, Value.float FloatKind.f64 bkf, Value.slice Akt k.t.length ckt]) w1 (Go.Proofs.Ytgleoebogikooaa.Dk.kIt_mk (by assumption) hfkf (rdRow_ext (hs.old 0 rfl) hrkt)))) ?_
  refine go mixed 2000 [2, 3, 5, 10] 2 (St.mk Rg.no [kCd (bitL 4 11), kCd (bitL 3 7)] [(2, vR 0 0), (3, vR 1 0), (5, vS none 0 0), (10, vB !keyOk k)] [LB.mk [cS Atnodes t.nodes.length ctnodes, cI t.root] 29, LB.mk [cI k.kind, cI k.n, cF bkf, cS Akt k.t.length ckt] 46]) (by kernel_rfl) (by kernel_rfl) (by kernel_rfl) ?_
  refine split_at 10 (b := !keyOk k) (by kernel_rfl) (by kernel_rfl) ?_ ?_
  · intro hb1
    try simp only [decide_eq_true_eq, decide_eq_false_iff_not, Bool.not_eq_true', Bool.not_eq_false', Bool.and_eq_true, Bool.or_eq_true, Bool.and_eq_false_imp, bne_iff_ne, beq_iff_eq, bne_eq_false_iff_eq, beq_eq_false_iff_ne, ne_eq, Decidable.not_not, Int.not_le, Int.not_lt, Nat.not_le, Nat.not_lt] at hb1
    refine go mixed 2000 [4] 0 (St.mk Rg.no [kCd (bitL 6 43), kCd (bitL 3 7)] [(4, vS none 0 0)] []) (by kernel_rfl) (by kernel_rfl) (by kernel_rfl) ?_
    refine ret_ok (vs := [vS none 0 0]) (by kernel_rfl) ?_
    intro L w1 hs
    rw [find_no (by assumption)]; exact ⟨none, 0, rfl, hs.out1 rowA_nil⟩
  intro hb1
  try simp only [decide_eq_true_eq, decide_eq_false_iff_not, Bool.not_eq_true', Bool.not_eq_false', Bool.and_eq_true, Bool.or_eq_true, Bool.and_eq_false_imp, bne_iff_ne, beq_iff_eq, bne_eq_false_iff_eq, beq_eq_false_iff_ne, ne_eq, Decidable.not_not, Int.not_le, Int.not_lt, Nat.not_le, Nat.not_lt] at hb1
  refine go mixed 2000 [3, 5, 12] 2 (St.mk (Rg.sq (bitL 4 7) 1) [kCd (bitL 4 15)] [(3, vR 1 0), (5, vS none 0 0), (12, SV.agg [cS Atnodes t.nodes.length ctnodes, cI t.root])] [LB.mk [cS Atnodes t.nodes.length ctnodes, cI t.root] 29, LB.mk [cI k.kind, cI k.n, cF bkf, cS Akt k.t.length ckt] 46]) (by kernel_rfl) (by kernel_rfl) (by kernel_rfl) ?_
  refine call_at true (by kernel_rfl : atC _ _ _ true = some (19, [SV.agg [cS Atnodes t.nodes.length ctnodes, cI t.root]], some 13, Rg.sq (bitL 4 7) 2)) (by kernel_rfl) (fun L w1 hs => (Go.Proofs.Ytgleoebogikooaa.Dk.sTreeAll_ok (t) ([Value.slice Atnodes t.nodes.length ctnodes, Value.int IntKind.i64 t.root]) w1 (Go.Proofs.Ytgleoebogikooaa.Dk.kTr_mk (rdRow_ext (hs.old 0 rfl) hrtnodes)) (by assumption) (by assumption)).mono ?_)
  rintro e_ w2_ ⟨B_1, d_1, rfl, hf_⟩
  refine ⟨.one (.v (Value.slice B_1 (allR t).length d_1)), _, _, rfl, fun _ => hf_.1.block, hs.fresh hf_, ?_⟩
  clear hs hf_
  refine go mixed 2000 [3, 5, 6, 7] 2 (St.mk Rg.no [kLp (bitL 8 239), KI.block 0, kCd (bitL 5 31)] [(3, vR 1 0), (5, vS none 0 0), (6, vS B_1 (allR t).length d_1), (7, vI 0)] [LB.mk [cS Atnodes t.nodes.length ctnodes, cI t.root] 29, LB.mk [cI k.kind, cI k.n, cF bkf, cS Akt k.t.length ckt] 46]) (by kernel_rfl) (by kernel_rfl) (by kernel_rfl) ?_
  have hkk : keyOk k = true := by simp_all
  refine h_apart EC.len EC.one (f := EC.cs) (n := 5) rfl kEn_ec (fun l hl1 hrel2 => ?_)
  have hlen : (allR t).length = (l.map Prod.snd).length := by rw [← hl1, List.length_map, List.length_map]
  have hln : l.length = (allR t).length := by rw [← hl1, List.length_map]
  have hmem : ∀ p ∈ l, p.1 ∈ allR t := fun p hp => by rw [← hl1]; exact List.mem_map_of_mem hp
  rw [hlen]
  refine h_nil 3 kI64 ?_
  refine go mixed 2000 [3, 5, 6, 7] 2 (St.mk Rg.no [kLp (bitL 8 239), KI.block 0, kCd (bitL 5 31)] [(3, vR 1 0), (5, vS none 0 0), (6, vS B_1 (List.map Prod.snd l).length d_1), (7, vI 0)] [LB.mk [cS Atnodes t.nodes.length ctnodes, cI t.root] 29, LB.mk [cI k.kind, cI k.n, cF bkf, cS Akt k.t.length ckt] 46]) (by kernel_rfl) (by kernel_rfl) (by kernel_rfl) ?_
  refine loop_at (ι := Nat × Option Addr × Nat) (fun s => [(7, .one (.v (.int .i64 s.1))), (5, .one (.v (.slice s.2.1 (((l.take s.1).filter fun p => inSpan k k p.1.key).map fun p => p.1.id).length s.2.2)))]) (fun _ => []) (fun s => [rowA 3 kI64 (((l.take s.1).filter fun p => inSpan k k p.1.key).map fun p => p.1.id) (.slice s.2.1 (((l.take s.1).filter fun p => inSpan k k p.1.key).map fun p => p.1.id).length s.2.2), rowA 101 kEC (l.map Prod.snd) (.slice B_1 (l.map Prod.snd).length d_1), hangA kEn EC.cs l, oldA w]) (fun s => s.1 ≤ l.length) (fun s => l.length - s.1) (0, none, 0) rfl rfl rfl (Nat.zero_le _) ?_
  rintro ⟨i, B, d⟩ hi ih
  simp only at hi ih ⊢
  have ho1 := idf_len (l := l) (q := fun p => inSpan k k p.1.key) i
  rcases Nat.lt_or_ge i l.length with hlt | hge
  · have hlt2 : i < (l.map Prod.snd).length := by rw [List.length_map]; exact hlt
    have hget : (l.map Prod.snd)[i]? = some l[i].2 := by simp [hlt]
    have hkx := entOk_key (allR_ok (hmem _ (List.getElem_mem hlt)))
    have hss := span_self (k := k) hkx
    refine go mixed 2000 [3, 5, 6, 7, 17] 2 (St.mk Rg.no [kCd (bitL 10 751), kCd (bitL 9 495), kLp (bitL 8 239), KI.block 0, kCd (bitL 5 31)] [(3, vR 1 0), (5, vS B (List.map (fun p => p.fst.id) (List.filter (fun p => inSpan k k p.fst.key) (List.take i l))).length d), (6, vS B_1 (List.map Prod.snd l).length d_1), (7, vI (↑i : Int)), (17, vB (decide ((↑i : Int) < (↑(List.map Prod.snd l).length : Int))))] [LB.mk [cS Atnodes t.nodes.length ctnodes, cI t.root] 29, LB.mk [cI k.kind, cI k.n, cF bkf, cS Akt k.t.length ckt] 46]) (by kernel_rfl) (by kernel_rfl) (by kernel_rfl) ?_
    refine split_at 17 (b := decide ((↑i : Int) < (↑(List.map Prod.snd l).length : Int))) (by kernel_rfl) (by kernel_rfl) ?_ ?_
    rotate_left
    · intro hb2
      replace hb2 := of_decide_eq_false hb2
      (exfalso; omega)
    intro hb2
    replace hb2 := of_decide_eq_true hb2
    refine go mixed 2000 [3, 5, 6, 7, 20, 21, 25] 2 (St.mk (Rg.dr (bitL 12 1519) (bitL 8 35) 5 2) [kCd (bitL 12 3567), KI.block 1, kCd (bitL 10 1007), kLp (bitL 8 239), KI.block 0, kCd (bitL 5 31)] [(3, vR 1 0), (5, vS B (List.map (fun p => p.fst.id) (List.filter (fun p => inSpan k k p.fst.key) (List.take i l))).length d), (6, vS B_1 (List.map Prod.snd l).length d_1), (7, vI (↑i : Int)), (20, vS B_1 (List.map Prod.snd l).length d_1), (21, vI (↑i : Int)), (25, SV.agg [cI k.kind, cI k.n, cF bkf, cS Akt k.t.length ckt])] [LB.mk [cS Atnodes t.nodes.length ctnodes, cI t.root] 29, LB.mk [cI k.kind, cI k.n, cF bkf, cS Akt k.t.length ckt] 46]) (by kernel_rfl) (by kernel_rfl) (by kernel_rfl) ?_
    refine index_at 2 (by kernel_rfl : atP _ _ _ 2 false = some (Op.indexAddr 34 (tmpO 20) (tmpO 21), 0, some 22, Rg.dr (bitL 12 1519) (bitL 8 39) 4 2)) (ni := i) (sz := 5) (by kernel_rfl) rfl rfl rfl (by assumption) (fun L w1 hs => rd_some (i := i) (hs.rd 1 rfl) (by assumption)) ?_
    intro a_1 ha_1
    cases ha_1
    refine go mixed 2000 [3, 5, 6, 7, 23, 25] 2 (St.mk (Rg.dr (bitL 12 1519) (bitL 8 47) 3 2) [kCd (bitL 12 3567), KI.block 1, kCd (bitL 10 1007), kLp (bitL 8 239), KI.block 0, kCd (bitL 5 31)] [(3, vR 1 0), (5, vS B (List.map (fun p => p.fst.id) (List.filter (fun p => inSpan k k p.fst.key) (List.take i l))).length d), (6, vS (some a_1) (List.map Prod.snd l).length d_1), (7, vI (↑i : Int)), (23, vP ((a_1.add (i * 5)).add 0)), (25, SV.agg [cI k.kind, cI k.n, cF bkf, cS Akt k.t.length ckt])] [LB.mk [cS Atnodes t.nodes.length ctnodes, cI t.root] 29, LB.mk [cI k.kind, cI k.n, cF bkf, cS Akt k.t.length ckt] 46]) (by kernel_rfl) (by kernel_rfl) (by kernel_rfl) ?_
    refine load_agg 4 (by kernel_rfl : atP _ _ _ 4 true = some (Op.load 46 (tmpO 23), 46, some 24, Rg.dr (bitL 12 1519) (bitL 8 63) 2 2)) (n := 4) (by kernel_rfl) rfl ?_
    intro L w1 hs
    refine ⟨[.v (.int .i64 l[i].2.kind), .v (.int .i64 l[i].2.n), .v (.float .f64 l[i].2.b), .v (.slice l[i].2.B l[i].2.m l[i].2.d)], rfl, cells_at 0 (ec_at (hs.rd 1 rfl) hget) rfl, ?_⟩
    clear hs
    refine go mixed 2000 [3, 5, 6, 7, 24, 25] 2 (St.mk (Rg.dr (bitL 12 1519) (bitL 8 63) 2 2) [kCd (bitL 12 3567), KI.block 1, kCd (bitL 10 1007), kLp (bitL 8 239), KI.block 0, kCd (bitL 5 31)] [(3, vR 1 0), (5, vS B (List.map (fun p => p.fst.id) (List.filter (fun p => inSpan k k p.fst.key) (List.take i l))).length d), (6, vS (some a_1) (List.map Prod.snd l).length d_1), (7, vI (↑i : Int)), (24, SV.agg [cI l[i].snd.kind, cI l[i].snd.n, cF l[i].snd.b, cS l[i].snd.5 l[i].snd.m l[i].snd.d]), (25, SV.agg [cI k.kind, cI k.n, cF bkf, cS Akt k.t.length ckt])] [LB.mk [cS Atnodes t.nodes.length ctnodes, cI t.root] 29, LB.mk [cI k.kind, cI k.n, cF bkf, cS Akt k.t.length ckt] 46]) (by kernel_rfl) (by kernel_rfl) (by kernel_rfl) ?_
    refine call_pure true (by kernel_rfl : atC _ _ _ true = some (66, [SV.agg [cI l[i].snd.kind, cI l[i].snd.n, cF l[i].snd.b, cS l[i].snd.5 l[i].snd.m l[i].snd.d], SV.agg [cI k.kind, cI k.n, cF bkf, cS Akt k.t.length ckt]], some 26, Rg.dr (bitL 12 1519) (bitL 8 127) 1 12)) (by kernel_rfl) (.one (.v (.int .i64 (if itemOk l[i].1.key && itemOk k then cmpIt l[i].1.key k else -2)))) (fun L w1 hs => sItemCmp_ok l[i].1.key _ k _ w1 (by obtain ⟨_, _, hh⟩ := hs.at_ 2 rfl; exact kEn_key (kEn.read (hang_get hh (List.getElem?_eq_getElem hlt)))) (kIt.ext (hs.old 3 rfl) hk) (hak _ (hmem _ (List.getElem_mem hlt))) lk_) ?_
    rw [show (if itemOk l[i].1.key && itemOk k then cmpIt l[i].1.key k else -2) = cmpIt l[i].1.key k by rw [keyOk_ok hkx, keyOk_ok hkk]; rfl]
    refine go mixed 2000 [3, 5, 6, 7, 27] 2 (St.mk Rg.no [kCd (bitL 12 3567), KI.block 1, kCd (bitL 10 1007), kLp (bitL 8 239), KI.block 0, kCd (bitL 5 31)] [(3, vR 1 0), (5, vS B (List.map (fun p => p.fst.id) (List.filter (fun p => inSpan k k p.fst.key) (List.take i l))).length d), (6, vS (some a_1) (List.map Prod.snd l).length d_1), (7, vI (↑i : Int)), (27, vB (cmpIt l[i].fst.key k == 0))] [LB.mk [cS Atnodes t.nodes.length ctnodes, cI t.root] 29, LB.mk [cI k.kind, cI k.n, cF bkf, cS Akt k.t.length ckt] 46]) (by kernel_rfl) (by kernel_rfl) (by kernel_rfl) ?_
    refine split_at 27 (b := cmpIt l[i].fst.key k == 0) (by kernel_rfl) (by kernel_rfl) ?_ ?_
    · intro hb
      have hq : inSpan k k l[i].1.key = true := by rw [hss, hkk]; simpa using hb
      refine go mixed 2000 [3, 6, 7, 28, 29, 30] 2 (St.mk (Rg.sq (bitL 13 3567) 3) [KI.block 1, kCd (bitL 10 1007), kLp (bitL 8 239), KI.block 0, kCd (bitL 5 31)] [(3, vR 1 0), (6, vS (some a_1) (List.map Prod.snd l).length d_1), (7, vI (↑i : Int)), (28, vS B (List.map (fun p => p.fst.id) (List.filter (fun p => inSpan k k p.fst.key) (List.take i l))).length d), (29, vS (some a_1) (List.map Prod.snd l).length d_1), (30, vI (↑i : Int))] [LB.mk [cS Atnodes t.nodes.length ctnodes, cI t.root] 29, LB.mk [cI k.kind, cI k.n, cF bkf, cS Akt k.t.length ckt] 46]) (by kernel_rfl) (by kernel_rfl) (by kernel_rfl) ?_
      refine index_at 3 (by kernel_rfl : atP _ _ _ 3 false = some (Op.indexAddr 34 (tmpO 29) (tmpO 30), 0, some 31, Rg.sq (bitL 13 3567) 4)) (ni := i) (sz := 5) (by kernel_rfl) rfl rfl rfl (by assumption) (fun L w1 hs => rd_some (i := i) (hs.rd 1 rfl) (by assumption)) ?_
      intro a_2 ha_2
      cases ha_2
      refine go mixed 2000 [3, 6, 7, 28, 32] 2 (St.mk (Rg.sq (bitL 13 3567) 5) [KI.block 1, kCd (bitL 10 1007), kLp (bitL 8 239), KI.block 0, kCd (bitL 5 31)] [(3, vR 1 0), (6, vS (some a_1) (List.map Prod.snd l).length d_1), (7, vI (↑i : Int)), (28, vS B (List.map (fun p => p.fst.id) (List.filter (fun p => inSpan k k p.fst.key) (List.take i l))).length d), (32, vP ((a_1.add (i * 5)).add 4))] [LB.mk [cS Atnodes t.nodes.length ctnodes, cI t.root] 29, LB.mk [cI k.kind, cI k.n, cF bkf, cS Akt k.t.length ckt] 46]) (by kernel_rfl) (by kernel_rfl) (by kernel_rfl) ?_
      refine load_one 5 (by kernel_rfl : atP _ _ _ 5 true = some (Op.load 3 (tmpO 32), 3, some 33, Rg.sq (bitL 13 3567) 6)) (n := 1) (by kernel_rfl) rfl ?_
      intro L w1 hs
      refine ⟨.v (.int .i64 l[i].2.id), cell_at 4 (ec_at (hs.rd 1 rfl) hget) rfl, ?_⟩
      clear hs
      refine go mixed 2000 [3, 6, 7, 28, 34] 3 (St.mk (Rg.sq (bitL 13 3567) 7) [KI.block 1, kCd (bitL 10 1007), kLp (bitL 8 239), KI.block 0, kCd (bitL 5 31)] [(3, vR 1 0), (6, vS (some a_1) (List.map Prod.snd l).length d_1), (7, vI (↑i : Int)), (28, vS B (List.map (fun p => p.fst.id) (List.filter (fun p => inSpan k k p.fst.key) (List.take i l))).length d), (34, SV.one (SC.sl 2 0 1 1))] [LB.mk [cS Atnodes t.nodes.length ctnodes, cI t.root] 29, LB.mk [cI k.kind, cI k.n, cF bkf, cS Akt k.t.length ckt] 46, LB.mk [cI l[i].snd.id] 3]) (by kernel_rfl) (by kernel_rfl) (by kernel_rfl) ?_
      refine h_conseq (fun L w hs => ⟨_, hs.triv (A := elA kI64 l[i].2.id [.int .i64 l[i].2.id]) rfl, ?_⟩)
      refine h_swap ?_
      refine append_lit (d := kI64) (y := l[i].2.id) (by_ := 8) (by kernel_rfl : atB _ _ _ false = some (Op.call (Call.mk (Callee.builtin Builtin.append) #[tmpO 28, tmpO 34] #[44, 44]), 44, some 35, Rg.sq (bitL 13 3567) 8)) (by kernel_rfl) rfl rfl rfl rfl (by simp only [maxLen]; omega) (by omega) ?_
      intro B' d'
      rw [idf_step (q := fun p => inSpan k k p.1.key) hlt hq (hrel2 _ (List.getElem_mem hlt)).2]
      refine go mixed 2000 [3, 5, 6, 7] 2 (St.mk Rg.no [kLp (bitL 8 239), KI.block 0, kCd (bitL 5 31)] [(3, vR 1 0), (5, vS B' (List.map (fun p => p.fst.id) (List.filter (fun p => inSpan k k p.fst.key) (List.take (i + 1) l))).length d'), (6, vS (some a_1) (List.map Prod.snd l).length d_1), (7, vI (IntKind.i64.wrap ((↑i : Int) + 1)))] [LB.mk [cS Atnodes t.nodes.length ctnodes, cI t.root] 29, LB.mk [cI k.kind, cI k.n, cF bkf, cS Akt k.t.length ckt] 46]) (by kernel_rfl) (by kernel_rfl) (by kernel_rfl) ?_
      rw [wrap_succ (by omega)]
      exact ih (i + 1, B', d') hlt (by simp only; omega)
    · intro hb
      have hq : inSpan k k l[i].1.key = false := by rw [hss, hkk]; simpa using hb
      rw [idf_skip (q := fun p => inSpan k k p.1.key) hlt hq]
      refine go mixed 2000 [3, 5, 6, 7] 2 (St.mk Rg.no [kLp (bitL 8 239), KI.block 0, kCd (bitL 5 31)] [(3, vR 1 0), (5, vS B (List.map (fun p => p.fst.id) (List.filter (fun p => inSpan k k p.fst.key) (List.take (i + 1) l))).length d), (6, vS (some a_1) (List.map Prod.snd l).length d_1), (7, vI (IntKind.i64.wrap ((↑i : Int) + 1)))] [LB.mk [cS Atnodes t.nodes.length ctnodes, cI t.root] 29, LB.mk [cI k.kind, cI k.n, cF bkf, cS Akt k.t.length ckt] 46]) (by kernel_rfl) (by kernel_rfl) (by kernel_rfl) ?_
      rw [wrap_succ (by omega)]
      exact ih (i + 1, B, d) hlt (by simp only; omega)
  · obtain rfl : i = l.length := by omega
    have hge2 : (l.map Prod.snd).length ≤ l.length := by rw [List.length_map]; omega
    have hfin : (l.filter fun p => inSpan k k p.1.key).map (fun p => p.1.id) = findR t k := by
      unfold findR spanR
      rw [← hl1, ← filt_fst (q := fun e => inSpan k k e.key), List.map_map]
      rfl
    rw [List.take_length, hfin]
    refine h_erase 1 _ rfl ?_
    refine h_erase 1 _ rfl ?_
    refine go mixed 2000 [3, 5, 6, 7, 17] 2 (St.mk Rg.no [kCd (bitL 10 751), kCd (bitL 9 495), kLp (bitL 8 239), KI.block 0, kCd (bitL 5 31)] [(3, vR 1 0), (5, vS B (findR t k).length d), (6, vS B_1 (List.map Prod.snd l).length d_1), (7, vI (↑l.length : Int)), (17, vB (decide ((↑l.length : Int) < (↑(List.map Prod.snd l).length : Int))))] [LB.mk [cS Atnodes t.nodes.length ctnodes, cI t.root] 29, LB.mk [cI k.kind, cI k.n, cF bkf, cS Akt k.t.length ckt] 46]) (by kernel_rfl) (by kernel_rfl) (by kernel_rfl) ?_
    refine split_at 17 (b := decide ((↑l.length : Int) < (↑(List.map Prod.snd l).length : Int))) (by kernel_rfl) (by kernel_rfl) ?_ ?_
    · intro hb2
      replace hb2 := of_decide_eq_true hb2
      (exfalso; omega)
    · intro hb2
      replace hb2 := of_decide_eq_false hb2
      refine go mixed 2000 [4] 0 (St.mk Rg.no [kCd (bitL 6 63)] [(4, vS B (findR t k).length d)] []) (by kernel_rfl) (by kernel_rfl) (by kernel_rfl) ?_
      refine ret_ok (vs := [vS B (findR t k).length d]) (by kernel_rfl) ?_
      intro L w1 hs
      exact ⟨_, _, rfl, hs.out (As := [_])⟩

end Go.Proofs.Ytgleoebogikooaa.Dk
