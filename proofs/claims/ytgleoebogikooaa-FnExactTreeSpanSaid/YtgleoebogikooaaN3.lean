/- Walks of functions of the program: what each call returns and what it leaves in memory. Conditions: those that each theorem names. -/
import Derived.Test.YtgleoebogikooaaN2
namespace Go.Proofs.Ytgleoebogikooaa.Dk
set_option linter.unusedVariables false
set_option linter.unusedSimpArgs false
open Go.Proofs.Ytgleoebogikooaa.Sx Go.Proofs Go.RowKit
set_option maxRecDepth 100000
set_option maxHeartbeats 1000000
theorem outs_step {l : List (En × EC)} {q : En × EC → Bool} {i : Nat} (h : i < l.length) (hq : q l[i] = true) : ((l.take i).filter q).map Prod.snd ++ [l[i].2] = ((l.take (i + 1)).filter q).map Prod.snd := by
  rw [List.take_succ_eq_append_getElem h, List.filter_append, List.map_append]
  simp [hq]
theorem outs_skip {l : List (En × EC)} {q : En × EC → Bool} {i : Nat} (h : i < l.length) (hq : q l[i] = false) : ((l.take i).filter q).map Prod.snd = ((l.take (i + 1)).filter q).map Prod.snd := by
  rw [List.take_succ_eq_append_getElem h, List.filter_append, List.map_append]
  simp [hq]
theorem outs_len {l : List (En × EC)} {q : En × EC → Bool} (i : Nat) : (((l.take i).filter q).map Prod.snd).length ≤ l.length := by
  rw [List.length_map]
  exact Nat.le_trans (List.length_filter_le _ _) (by rw [List.length_take]; omega)
theorem sTreeSpan_ok (t : Tr) (cst : List Value) (f : It) (csf : List Value) (u : It) (csu : List Value) (w : World) (ht : kTr.rd w.heap t cst) (hf : kIt.rd w.heap f csf) (hu : kIt.rd w.heap u csu) (hz : zTr t ≤ 1048576) (hby : byTr t) (pf : byOk f.t) (pu : byOk u.t) (lf : f.t.length ≤ 1048576) (lu : u.t.length ≤ 1048576) :
    Calls Try.prog 34 #[.agg cst.toArray, .agg csf.toArray, .agg csu.toArray] w fun e w' => ∃ (B : Option Addr) (d : Nat), e = .returned (.slice B (spanR t f u).length d) ∧ Fresh w w' [rowA 101 kEn (spanR t f u) (.slice B (spanR t f u).length d)] := by
  obtain ⟨Atnodes, ctnodes, rfl, hrtnodes⟩ := kTr_inv ht
  obtain ⟨bff, Aft, cft, rfl, hbff, hfff, hrft⟩ := kIt_inv hf
  obtain ⟨buf, Aut, cut, rfl, hbuf, hfuf, hrut⟩ := kIt_inv hu
  refine enter (args := [.agg [.v (.slice Atnodes t.nodes.length ctnodes), .v (.int .i64 t.root)], .agg [.v (.int .i64 f.kind), .v (.int .i64 f.n), .v (.float .f64 bff), .v (.slice Aft f.t.length cft)], .agg [.v (.int .i64 u.kind), .v (.int .i64 u.n), .v (.float .f64 buf), .v (.slice Aut u.t.length cut)]]) Try.func34 (c := bodyOf Try.f34) rfl rfl (start_LOK _) (start_old w) ?_
  have hkl := key_le hz
  have hzz : zTr t = zRow zNd t.nodes := rfl
  have hz1 : zRow zNd t.nodes = t.nodes.length + (t.nodes.map zNd).sum := rfl
  have hal := allR_len t
  have hak : ∀ x ∈ allR t, x.key.t.length ≤ 1048576 := fun x hx => by
    obtain ⟨n, hn, he⟩ := allR_mem hx
    exact hkl n hn x he
  have hab : ∀ x ∈ allR t, byOk x.key.t := fun x hx => by
    obtain ⟨n, hn, he⟩ := allR_mem hx
    exact hby n hn x he
  have hal3 : (allR t).length ≤ 1048576 := by
    unfold allR
    split
    · rename_i h
      unfold allR at hal
      rw [if_pos h] at hal
      unfold treeOk at h
      simp only [Bool.and_eq_true, decide_eq_true_eq] at h
      omega
    · simp
  refine go mixed 2000 [4, 5, 7, 10] 3 (St.mk (Rg.sq (bitL 3 3) 1) [kCd (bitL 3 7)] [(4, vR 1 0), (5, vR 2 0), (7, vS none 0 0), (10, SV.agg [cS Atnodes t.nodes.length ctnodes, cI t.root])] [LB.mk [cS Atnodes t.nodes.length ctnodes, cI t.root] 29, LB.mk [cI f.kind, cI f.n, cF bff, cS Aft f.t.length cft] 46, LB.mk [cI u.kind, cI u.n, cF buf, cS Aut u.t.length cut] 46]) (by kernel_rfl) (by kernel_rfl) (by kernel_rfl) ?_
  refine call_at true (by kernel_rfl : atC _ _ _ true = some (19, [SV.agg [cS Atnodes t.nodes.length ctnodes, cI t.root]], some 11, Rg.sq (bitL 3 3) 2)) (by kernel_rfl) (fun L w1 hs => (Go.Proofs.Ytgleoebogikooaa.Dk.sTreeAll_ok (t) ([Value.slice Atnodes t.nodes.length ctnodes, Value.int IntKind.i64 t.root]) w1 (Go.Proofs.Ytgleoebogikooaa.Dk.kTr_mk (rdRow_ext (hs.old 0 rfl) hrtnodes)) (by assumption) (by assumption)).mono ?_)
  rintro e_ w2_ ⟨B_1, d_1, rfl, hf_⟩
  refine ⟨.one (.v (Value.slice B_1 (allR t).length d_1)), _, _, rfl, fun _ => hf_.1.block, hs.fresh hf_, ?_⟩
  clear hs hf_
  refine go mixed 2000 [4, 5, 7, 8, 9] 3 (St.mk Rg.no [kLp (bitL 7 119), KI.block 0, kCd (bitL 4 15)] [(4, vR 1 0), (5, vR 2 0), (7, vS none 0 0), (8, vS B_1 (allR t).length d_1), (9, vI 0)] [LB.mk [cS Atnodes t.nodes.length ctnodes, cI t.root] 29, LB.mk [cI f.kind, cI f.n, cF bff, cS Aft f.t.length cft] 46, LB.mk [cI u.kind, cI u.n, cF buf, cS Aut u.t.length cut] 46]) (by kernel_rfl) (by kernel_rfl) (by kernel_rfl) ?_
  refine h_apart EC.len EC.one (f := EC.cs) (n := 5) rfl kEn_ec (fun l hl1 hrel2 => ?_)
  have hrel : ∀ p ∈ l, p.2.x = p.1 := fun p hp => (hrel2 p hp).1
  have hlen : (allR t).length = (l.map Prod.snd).length := by rw [← hl1, List.length_map, List.length_map]
  have hln : l.length = (allR t).length := by rw [← hl1, List.length_map]
  have hmem : ∀ p ∈ l, p.1 ∈ allR t := fun p hp => by rw [← hl1]; exact List.mem_map_of_mem hp
  have hsp : spanR t f u = (l.filter fun p => inSpan f u p.1.key).map Prod.fst := by rw [filt_fst (q := fun e => inSpan f u e.key), hl1]; rfl
  have hsl : (spanR t f u).length = ((l.filter fun p => inSpan f u p.1.key).map Prod.snd).length := by rw [hsp, List.length_map, List.length_map]
  rw [hlen]
  refine h_nil 101 kEC ?_
  refine loop_at (ι := Nat × Option Addr × Nat) (fun s => [(9, .one (.v (.int .i64 s.1))), (7, .one (.v (.slice s.2.1 (((l.take s.1).filter fun p => inSpan f u p.1.key).map Prod.snd).length s.2.2)))]) (fun _ => []) (fun s => [rowA 101 kEC (((l.take s.1).filter fun p => inSpan f u p.1.key).map Prod.snd) (.slice s.2.1 (((l.take s.1).filter fun p => inSpan f u p.1.key).map Prod.snd).length s.2.2), rowA 101 kEC (l.map Prod.snd) (.slice B_1 (l.map Prod.snd).length d_1), hangA kEn EC.cs l, oldA w]) (fun s => s.1 ≤ l.length) (fun s => l.length - s.1) (0, none, 0) rfl rfl rfl (Nat.zero_le _) ?_
  rintro ⟨i, B, d⟩ hi ih
  simp only at hi ih ⊢
  have ho1 := outs_len (l := l) (q := fun p => inSpan f u p.1.key) i
  rcases Nat.lt_or_ge i l.length with hlt | hge
  · have hlt2 : i < (l.map Prod.snd).length := by rw [List.length_map]; exact hlt
    have hget : (l.map Prod.snd)[i]? = some l[i].2 := by simp [hlt]
    refine go mixed 2000 [4, 5, 7, 8, 9, 15] 3 (St.mk Rg.no [kCd (bitL 9 375), kCd (bitL 8 247), kLp (bitL 7 119), KI.block 0, kCd (bitL 4 15)] [(4, vR 1 0), (5, vR 2 0), (7, vS B (List.map Prod.snd (List.filter (fun p => inSpan f u p.fst.key) (List.take i l))).length d), (8, vS B_1 (List.map Prod.snd l).length d_1), (9, vI (↑i : Int)), (15, vB (decide ((↑i : Int) < (↑(List.map Prod.snd l).length : Int))))] [LB.mk [cS Atnodes t.nodes.length ctnodes, cI t.root] 29, LB.mk [cI f.kind, cI f.n, cF bff, cS Aft f.t.length cft] 46, LB.mk [cI u.kind, cI u.n, cF buf, cS Aut u.t.length cut] 46]) (by kernel_rfl) (by kernel_rfl) (by kernel_rfl) ?_
    refine split_at 15 (b := decide ((↑i : Int) < (↑(List.map Prod.snd l).length : Int))) (by kernel_rfl) (by kernel_rfl) ?_ ?_
    rotate_left
    · intro hb1
      replace hb1 := of_decide_eq_false hb1
      (exfalso; omega)
    intro hb1
    replace hb1 := of_decide_eq_true hb1
    refine go mixed 2000 [4, 5, 7, 8, 9, 18, 19, 20, 21] 3 (St.mk (Rg.dr (bitL 11 759) (bitL 8 15) 4 2) [kCd (bitL 11 1783), KI.block 1, kCd (bitL 9 503), kLp (bitL 7 119), KI.block 0, kCd (bitL 4 15)] [(4, vR 1 0), (5, vR 2 0), (7, vS B (List.map Prod.snd (List.filter (fun p => inSpan f u p.fst.key) (List.take i l))).length d), (8, vS B_1 (List.map Prod.snd l).length d_1), (9, vI (↑i : Int)), (18, SV.agg [cI f.kind, cI f.n, cF bff, cS Aft f.t.length cft]), (19, SV.agg [cI u.kind, cI u.n, cF buf, cS Aut u.t.length cut]), (20, vS B_1 (List.map Prod.snd l).length d_1), (21, vI (↑i : Int))] [LB.mk [cS Atnodes t.nodes.length ctnodes, cI t.root] 29, LB.mk [cI f.kind, cI f.n, cF bff, cS Aft f.t.length cft] 46, LB.mk [cI u.kind, cI u.n, cF buf, cS Aut u.t.length cut] 46]) (by kernel_rfl) (by kernel_rfl) (by kernel_rfl) ?_
    refine index_at 4 (by kernel_rfl : atP _ _ _ 4 false = some (Op.indexAddr 34 (tmpO 20) (tmpO 21), 0, some 22, Rg.dr (bitL 11 759) (bitL 8 31) 3 2)) (ni := i) (sz := 5) (by kernel_rfl) rfl rfl rfl (by assumption) (fun L w1 hs => rd_some (i := i) (hs.rd 1 rfl) (by assumption)) ?_
    intro a_1 ha_1
    cases ha_1
    refine go mixed 2000 [4, 5, 7, 8, 9, 18, 19, 23] 3 (St.mk (Rg.dr (bitL 11 759) (bitL 8 63) 2 2) [kCd (bitL 11 1783), KI.block 1, kCd (bitL 9 503), kLp (bitL 7 119), KI.block 0, kCd (bitL 4 15)] [(4, vR 1 0), (5, vR 2 0), (7, vS B (List.map Prod.snd (List.filter (fun p => inSpan f u p.fst.key) (List.take i l))).length d), (8, vS (some a_1) (List.map Prod.snd l).length d_1), (9, vI (↑i : Int)), (18, SV.agg [cI f.kind, cI f.n, cF bff, cS Aft f.t.length cft]), (19, SV.agg [cI u.kind, cI u.n, cF buf, cS Aut u.t.length cut]), (23, vP ((a_1.add (i * 5)).add 0))] [LB.mk [cS Atnodes t.nodes.length ctnodes, cI t.root] 29, LB.mk [cI f.kind, cI f.n, cF bff, cS Aft f.t.length cft] 46, LB.mk [cI u.kind, cI u.n, cF buf, cS Aut u.t.length cut] 46]) (by kernel_rfl) (by kernel_rfl) (by kernel_rfl) ?_
    refine load_agg 6 (by kernel_rfl : atP _ _ _ 6 true = some (Op.load 46 (tmpO 23), 46, some 24, Rg.dr (bitL 11 759) (bitL 8 127) 1 2)) (n := 4) (by kernel_rfl) rfl ?_
    intro L w1 hs
    refine ⟨[.v (.int .i64 l[i].2.kind), .v (.int .i64 l[i].2.n), .v (.float .f64 l[i].2.b), .v (.slice l[i].2.B l[i].2.m l[i].2.d)], rfl, cells_at 0 (ec_at (hs.rd 1 rfl) hget) rfl, ?_⟩
    clear hs
    refine go mixed 2000 [4, 5, 7, 8, 9, 18, 19, 24] 3 (St.mk (Rg.dr (bitL 11 759) (bitL 8 127) 1 2) [kCd (bitL 11 1783), KI.block 1, kCd (bitL 9 503), kLp (bitL 7 119), KI.block 0, kCd (bitL 4 15)] [(4, vR 1 0), (5, vR 2 0), (7, vS B (List.map Prod.snd (List.filter (fun p => inSpan f u p.fst.key) (List.take i l))).length d), (8, vS (some a_1) (List.map Prod.snd l).length d_1), (9, vI (↑i : Int)), (18, SV.agg [cI f.kind, cI f.n, cF bff, cS Aft f.t.length cft]), (19, SV.agg [cI u.kind, cI u.n, cF buf, cS Aut u.t.length cut]), (24, SV.agg [cI l[i].snd.kind, cI l[i].snd.n, cF l[i].snd.b, cS l[i].snd.5 l[i].snd.m l[i].snd.d])] [LB.mk [cS Atnodes t.nodes.length ctnodes, cI t.root] 29, LB.mk [cI f.kind, cI f.n, cF bff, cS Aft f.t.length cft] 46, LB.mk [cI u.kind, cI u.n, cF buf, cS Aut u.t.length cut] 46]) (by kernel_rfl) (by kernel_rfl) (by kernel_rfl) ?_
    refine call_pure true (by kernel_rfl : atC _ _ _ true = some (70, [SV.agg [cI f.kind, cI f.n, cF bff, cS Aft f.t.length cft], SV.agg [cI u.kind, cI u.n, cF buf, cS Aut u.t.length cut], SV.agg [cI l[i].snd.kind, cI l[i].snd.n, cF l[i].snd.b, cS l[i].snd.5 l[i].snd.m l[i].snd.d]], some 25, Rg.dr (bitL 11 759) (bitL 8 255) 0 13)) (by kernel_rfl) (.one (.bo (inSpan f u l[i].1.key))) (fun L w1 hs => sInSpan_ok f _ u _ l[i].1.key _ w1 (kIt.ext (hs.old 3 rfl) hf) (kIt.ext (hs.old 3 rfl) hu) (by obtain ⟨_, _, hh⟩ := hs.at_ 2 rfl; exact kEn_key (kEn.read (hang_get hh (List.getElem?_eq_getElem hlt)))) lf lu (hak _ (hmem _ (List.getElem_mem hlt)))) ?_
    refine go mixed 2000 [4, 5, 7, 8, 9, 25] 3 (St.mk Rg.no [kCd (bitL 11 1783), KI.block 1, kCd (bitL 9 503), kLp (bitL 7 119), KI.block 0, kCd (bitL 4 15)] [(4, vR 1 0), (5, vR 2 0), (7, vS B (List.map Prod.snd (List.filter (fun p => inSpan f u p.fst.key) (List.take i l))).length d), (8, vS (some a_1) (List.map Prod.snd l).length d_1), (9, vI (↑i : Int)), (25, vB (inSpan f u l[i].fst.key))] [LB.mk [cS Atnodes t.nodes.length ctnodes, cI t.root] 29, LB.mk [cI f.kind, cI f.n, cF bff, cS Aft f.t.length cft] 46, LB.mk [cI u.kind, cI u.n, cF buf, cS Aut u.t.length cut] 46]) (by kernel_rfl) (by kernel_rfl) (by kernel_rfl) ?_
    refine split_at 25 (b := inSpan f u l[i].fst.key) (by kernel_rfl) (by kernel_rfl) ?_ ?_
    · intro hb
      refine go mixed 2000 [4, 5, 8, 9, 26, 27, 28] 3 (St.mk (Rg.sq (bitL 12 1783) 3) [KI.block 1, kCd (bitL 9 503), kLp (bitL 7 119), KI.block 0, kCd (bitL 4 15)] [(4, vR 1 0), (5, vR 2 0), (8, vS (some a_1) (List.map Prod.snd l).length d_1), (9, vI (↑i : Int)), (26, vS B (List.map Prod.snd (List.filter (fun p => inSpan f u p.fst.key) (List.take i l))).length d), (27, vS (some a_1) (List.map Prod.snd l).length d_1), (28, vI (↑i : Int))] [LB.mk [cS Atnodes t.nodes.length ctnodes, cI t.root] 29, LB.mk [cI f.kind, cI f.n, cF bff, cS Aft f.t.length cft] 46, LB.mk [cI u.kind, cI u.n, cF buf, cS Aut u.t.length cut] 46]) (by kernel_rfl) (by kernel_rfl) (by kernel_rfl) ?_
      refine index_at 3 (by kernel_rfl : atP _ _ _ 3 false = some (Op.indexAddr 34 (tmpO 27) (tmpO 28), 0, some 29, Rg.sq (bitL 12 1783) 4)) (ni := i) (sz := 5) (by kernel_rfl) rfl rfl rfl (by assumption) (fun L w1 hs => rd_some (i := i) (hs.rd 1 rfl) (by assumption)) ?_
      intro a_2 ha_2
      cases ha_2
      refine go mixed 2000 [4, 5, 8, 9, 26, 29] 3 (St.mk (Rg.sq (bitL 12 1783) 4) [KI.block 1, kCd (bitL 9 503), kLp (bitL 7 119), KI.block 0, kCd (bitL 4 15)] [(4, vR 1 0), (5, vR 2 0), (8, vS (some a_1) (List.map Prod.snd l).length d_1), (9, vI (↑i : Int)), (26, vS B (List.map Prod.snd (List.filter (fun p => inSpan f u p.fst.key) (List.take i l))).length d), (29, vP (a_1.add (i * 5)))] [LB.mk [cS Atnodes t.nodes.length ctnodes, cI t.root] 29, LB.mk [cI f.kind, cI f.n, cF bff, cS Aft f.t.length cft] 46, LB.mk [cI u.kind, cI u.n, cF buf, cS Aut u.t.length cut] 46]) (by kernel_rfl) (by kernel_rfl) (by kernel_rfl) ?_
      refine load_agg 4 (by kernel_rfl : atP _ _ _ 4 true = some (Op.load 101 (tmpO 29), 101, some 30, Rg.sq (bitL 12 1783) 5)) (n := 5) (by kernel_rfl) rfl ?_
      intro L w1 hs
      refine ⟨EC.scs l[i].2, rfl, cells_at0 (scs := EC.scs l[i].2) (ec_at (hs.rd 1 rfl) hget) rfl, ?_⟩
      clear hs
      unfold EC.scs
      refine go mixed 2000 [4, 5, 8, 9, 26, 31] 4 (St.mk (Rg.sq (bitL 12 1783) 6) [KI.block 1, kCd (bitL 9 503), kLp (bitL 7 119), KI.block 0, kCd (bitL 4 15)] [(4, vR 1 0), (5, vR 2 0), (8, vS (some a_1) (List.map Prod.snd l).length d_1), (9, vI (↑i : Int)), (26, vS B (List.map Prod.snd (List.filter (fun p => inSpan f u p.fst.key) (List.take i l))).length d), (31, SV.one (SC.sl 3 0 1 1))] [LB.mk [cS Atnodes t.nodes.length ctnodes, cI t.root] 29, LB.mk [cI f.kind, cI f.n, cF bff, cS Aft f.t.length cft] 46, LB.mk [cI u.kind, cI u.n, cF buf, cS Aut u.t.length cut] 46, LB.mk [cI l[i].snd.kind, cI l[i].snd.n, cF l[i].snd.b, cS l[i].snd.5 l[i].snd.m l[i].snd.d, cI l[i].snd.id] 101]) (by kernel_rfl) (by kernel_rfl) (by kernel_rfl) ?_
      refine h_conseq (fun L w hs => ⟨_, hs.triv (A := elA kEC l[i].2 (EC.cs l[i].2)) rfl, ?_⟩)
      refine h_swap ?_
      refine append_lit (d := kEC) (y := l[i].2) (by_ := 56) (by kernel_rfl : atB _ _ _ false = some (Op.call (Call.mk (Callee.builtin Builtin.append) #[tmpO 26, tmpO 31] #[34, 34]), 34, some 32, Rg.sq (bitL 12 1783) 7)) (by kernel_rfl) rfl rfl rfl rfl (by simp only [maxLen]; omega) (by omega) ?_
      intro B' d'
      rw [outs_step (q := fun p => inSpan f u p.1.key) hlt hb]
      refine go mixed 2000 [4, 5, 7, 8, 9] 3 (St.mk Rg.no [kLp (bitL 7 119), KI.block 0, kCd (bitL 4 15)] [(4, vR 1 0), (5, vR 2 0), (7, vS B' (List.map Prod.snd (List.filter (fun p => inSpan f u p.fst.key) (List.take (i + 1) l))).length d'), (8, vS (some a_1) (List.map Prod.snd l).length d_1), (9, vI (IntKind.i64.wrap ((↑i : Int) + 1)))] [LB.mk [cS Atnodes t.nodes.length ctnodes, cI t.root] 29, LB.mk [cI f.kind, cI f.n, cF bff, cS Aft f.t.length cft] 46, LB.mk [cI u.kind, cI u.n, cF buf, cS Aut u.t.length cut] 46]) (by kernel_rfl) (by kernel_rfl) (by kernel_rfl) ?_
      rw [wrap_succ (by omega)]
      exact ih (i + 1, B', d') hlt (by simp only; omega)
    · intro hb
      rw [outs_skip (q := fun p => inSpan f u p.1.key) hlt hb]
      refine go mixed 2000 [4, 5, 7, 8, 9] 3 (St.mk Rg.no [kLp (bitL 7 119), KI.block 0, kCd (bitL 4 15)] [(4, vR 1 0), (5, vR 2 0), (7, vS B (List.map Prod.snd (List.filter (fun p => inSpan f u p.fst.key) (List.take (i + 1) l))).length d), (8, vS (some a_1) (List.map Prod.snd l).length d_1), (9, vI (IntKind.i64.wrap ((↑i : Int) + 1)))] [LB.mk [cS Atnodes t.nodes.length ctnodes, cI t.root] 29, LB.mk [cI f.kind, cI f.n, cF bff, cS Aft f.t.length cft] 46, LB.mk [cI u.kind, cI u.n, cF buf, cS Aut u.t.length cut] 46]) (by kernel_rfl) (by kernel_rfl) (by kernel_rfl) ?_
      rw [wrap_succ (by omega)]
      exact ih (i + 1, B, d) hlt (by simp only; omega)
  · obtain rfl : i = l.length := by omega
    have hge2 : (l.map Prod.snd).length ≤ l.length := by rw [List.length_map]; omega
    rw [List.take_length]
    refine h_erase 1 _ rfl ?_
    refine h_turn (A := [_, _]) (B := [rowA 101 kEn ((l.filter fun p => inSpan f u p.1.key).map Prod.fst) (.slice B ((l.filter fun p => inSpan f u p.1.key).map Prod.snd).length d)]) (fun h S ho => ⟨S, fun _ => False, fun _ hb => hb, fun _ hb => hb.elim, fun _ _ hb => hb, rowA_holds.2 (join_row (hl := EC.len) (h1 := EC.one) rfl (by
      obtain ⟨S1, S2, s1, s2, sd, hrow, S3, S4, s3, s4, sd2, hh, _⟩ := ho
      exact ⟨S1, S2, s1, s2, sd, hrow, S3, S4, s3, s4, sd2, hang_sub List.filter_sublist hh, trivial⟩)), trivial⟩) ?_
    rw [hsl, hsp]
    refine go mixed 2000 [4, 5, 7, 8, 9, 15] 3 (St.mk Rg.no [kCd (bitL 9 375), kCd (bitL 8 247), kLp (bitL 7 119), KI.block 0, kCd (bitL 4 15)] [(4, vR 1 0), (5, vR 2 0), (7, vS B (List.map Prod.snd (List.filter (fun p => inSpan f u p.fst.key) l)).length d), (8, vS B_1 (List.map Prod.snd l).length d_1), (9, vI (↑l.length : Int)), (15, vB (decide ((↑l.length : Int) < (↑(List.map Prod.snd l).length : Int))))] [LB.mk [cS Atnodes t.nodes.length ctnodes, cI t.root] 29, LB.mk [cI f.kind, cI f.n, cF bff, cS Aft f.t.length cft] 46, LB.mk [cI u.kind, cI u.n, cF buf, cS Aut u.t.length cut] 46]) (by kernel_rfl) (by kernel_rfl) (by kernel_rfl) ?_
    refine split_at 15 (b := decide ((↑l.length : Int) < (↑(List.map Prod.snd l).length : Int))) (by kernel_rfl) (by kernel_rfl) ?_ ?_
    · intro hb1
      replace hb1 := of_decide_eq_true hb1
      (exfalso; omega)
    intro hb1
    replace hb1 := of_decide_eq_false hb1
    refine go mixed 2000 [6] 0 (St.mk Rg.no [kCd (bitL 5 31)] [(6, vS B (List.map Prod.snd (List.filter (fun p => inSpan f u p.fst.key) l)).length d)] []) (by kernel_rfl) (by kernel_rfl) (by kernel_rfl) ?_
    refine go mixed 2000 [6] 0 (St.mk Rg.no [kCd (bitL 5 31)] [(6, vS B (List.map Prod.snd (List.filter (fun p => inSpan f u p.fst.key) l)).length d)] []) (by kernel_rfl) (by kernel_rfl) (by kernel_rfl) ?_
    refine ret_ok (vs := [vS B (List.map Prod.snd (List.filter (fun p => inSpan f u p.fst.key) l)).length d]) (by kernel_rfl) ?_
    intro L w1 hs
    exact ⟨_, _, rfl, hs.out (As := [_])⟩

theorem markItem_ok (x : It) (b : Nat) (A : Option Addr) (c : Nat) (k : Int) (w : World) (S : Nat → Prop) (h : sepL [rowA 5 kU8 x.t (.slice A x.t.length c)] w.heap S) (hS : ∀ b, S b → b < w.heap.size) (hl : x.t.length ≤ 1048576) (hk : 0 ≤ k ∧ k ≤ 1073741824) :
    Calls Try.prog 31 #[.agg #[.int .i64 x.kind, .int .i64 x.n, .float .f64 b, .slice A x.t.length c], .int .i64 k] w fun e w' => e = .returned (.int .i64 (k + x.t.length)) ∧ Mut w w' S [] := by
  refine enter (args := [.agg [.v (.int .i64 x.kind), .v (.int .i64 x.n), .v (.float .f64 b), .v (.slice A x.t.length c)], .one (.v (.int .i64 k))]) Try.func31 (c := bodyOf Try.f31) rfl rfl (start_LOK _) (start_mut h hS) ?_
  refine go mixed 2000 [6, 7] 0 (St.mk (Rg.sq [true, false] 3) [KI.code [true, true]] [(6, vS A x.t.length c), (7, vI k)] []) (by kernel_rfl) (by kernel_rfl) (by kernel_rfl) ?_
  refine call_mut (A := [rowA 5 kU8 x.t (.slice A x.t.length c)]) (by kernel_rfl : atC _ _ _ false = some (62, [vS A x.t.length c, vI k], some 8, Rg.sq [true, false] 4)) (by kernel_rfl) (fun L w1 S1 hs hA hS1 => (markByteS_ok x.t A c _ w1 S1 hA hS1 hl (by omega)).mono ?_)
  rintro e w2 ⟨rfl, hm⟩
  refine ⟨.one (.v (.int .i64 _)), _, rfl, hm, ?_⟩
  clear hm hs hA hS1
  refine go mixed 2000 [4] 0 (St.mk Rg.no [kCd (bitL 3 7)] [(4, vI (k + (↑x.t.length : Int)))] []) (by kernel_rfl) (by kernel_rfl) (by kernel_rfl) ?_
  refine ret_ok (vs := [vI (k + (↑x.t.length : Int))]) (by kernel_rfl) ?_
  intro L w1 hs
  exact ⟨rfl, SOK.outm (As := []) hs.drop⟩

end Go.Proofs.Ytgleoebogikooaa.Dk
