/- Walks of functions of the program: what each call returns and what it leaves in memory. Conditions: those that each theorem names. -/
import Derived.Test.YtgleoebogikooaaN1
namespace Go.Proofs.Ytgleoebogikooaa.Dk
set_option linter.unusedVariables false
set_option linter.unusedSimpArgs false
open Go.Proofs.Ytgleoebogikooaa.Sx Go.Proofs Go.RowKit
set_option maxRecDepth 100000
set_option maxHeartbeats 1000000
theorem blk_cells0 {h : Hp} {g ty : Nat} {cs : List Value} (hb : h[g]? = some (.cells cs.toArray ty (0, 0))) : ∀ j u, cs[j]? = some u → cellH h ((⟨g, 0, none⟩ : Addr).add j) = some u := fun j u hu => blk_at hb j hu
theorem kEn_key {h : Hp} {x : En} {cs : List Value} (hr : kEn.rd h x cs) : kIt.rd h x.key (cs.take 4) := by
  obtain ⟨b, A, c, rfl, h1, h2, h3⟩ := kEn_inv hr
  exact kIt_mk h1 h2 h3
def spanR (t : Tr) (f u : It) : List En := (allR t).filter fun e => inSpan f u e.key
theorem spanR_mem {t : Tr} {f u : It} {x : En} (h : x ∈ spanR t f u) : x ∈ allR t := (List.mem_filter.1 h).1
theorem filt_fst {l : List (En × EC)} {q : En → Bool} : ((l.filter fun p => q p.1).map Prod.fst) = (l.map Prod.fst).filter q := by
  rw [List.filter_map]
  rfl
theorem filt_snd {l : List (En × EC)} {q : En → Bool} (hrel : ∀ p ∈ l, p.2.x = p.1) : ((l.map Prod.snd).filter fun c => !(fun c : EC => !q c.x) c) = (l.filter fun p => q p.1).map Prod.snd := by
  rw [List.filter_map]
  congr 1
  refine List.filter_congr fun p hp => ?_
  simp only [Function.comp, Bool.not_not, hrel p hp]
theorem span1_ok (f u : It) (csf csu : List Value) (x : En) (csx : List Value) (g1 g2 : Nat) (w : World) (b1 : w.heap[g1]? = some (.cells csf.toArray 46 (0, 0))) (b2 : w.heap[g2]? = some (.cells csu.toArray 46 (0, 0))) (hf : kIt.rd w.heap f csf) (hu : kIt.rd w.heap u csu) (hx : kEn.rd w.heap x csx) (pf : byOk f.t) (pu : byOk u.t) (px : byOk x.key.t) :
    Calls Try.prog 72 #[.agg csx.toArray, .pointer (some ⟨g1, 0, none⟩), .pointer (some ⟨g2, 0, none⟩)] w fun e w' => e = .returned (.bool (!inSpan f u x.key)) ∧ Below w.heap.size w w' := by
  obtain ⟨bx, Ax, cx, rfl, hbx, hfx, hrx⟩ := kEn_inv hx
  obtain ⟨bf, Af, cf, rfl, hbf, hff, hrf⟩ := kIt_inv hf
  obtain ⟨bu, Au, cu, rfl, hbu, hfu, hru⟩ := kIt_inv hu
  have l1 := (Array.getElem?_eq_some_iff.1 b1).1
  have l2 := (Array.getElem?_eq_some_iff.1 b2).1
  refine enter (args := [.agg [.v (.int .i64 x.key.kind), .v (.int .i64 x.key.n), .v (.float .f64 bx), .v (.slice Ax x.key.t.length cx), .v (.int .i64 x.id)], .one (.v (.pointer (some ⟨g1, 0, none⟩))), .one (.v (.pointer (some ⟨g2, 0, none⟩)))]) Try.func72 (c := bodyOf Try.f72) rfl rfl (start_LOK _) (start_old w) ?_
  refine go mixed 2000 [1, 2, 3] 1 (St.mk (Rg.sq [true, false] 0) [KI.code [true, true]] [(1, vP (Addr.mk g1 0 none)), (2, vP (Addr.mk g2 0 none)), (3, vR 0 0)] [LB.mk [cI x.key.kind, cI x.key.n, cF bx, cS Ax x.key.t.length cx, cI x.id] 101]) (by kernel_rfl) (by kernel_rfl) (by kernel_rfl) ?_
  refine load_agg 0 (by kernel_rfl : atP _ _ _ 0 true = some (Op.load 46 (tmpO 1), 46, some 5, Rg.sq [true, false] 1)) (n := 4) (by kernel_rfl) rfl ?_
  intro L w1 hs
  refine ⟨[.v (.int .i64 f.kind), .v (.int .i64 f.n), .v (.float .f64 bf), .v (.slice Af f.t.length cf)], rfl, cells_at0 (blk_cells0 ((hs.old 0 rfl g1 l1).trans b1)) rfl, ?_⟩
  clear hs
  refine go mixed 2000 [2, 3, 5] 1 (St.mk (Rg.sq [true, false] 1) [KI.code [true, true]] [(2, vP (Addr.mk g2 0 none)), (3, vR 0 0), (5, SV.agg [cI f.kind, cI f.n, cF bf, cS Af f.t.length cf])] [LB.mk [cI x.key.kind, cI x.key.n, cF bx, cS Ax x.key.t.length cx, cI x.id] 101]) (by kernel_rfl) (by kernel_rfl) (by kernel_rfl) ?_
  refine load_agg 1 (by kernel_rfl : atP _ _ _ 1 true = some (Op.load 46 (tmpO 2), 46, some 6, Rg.sq [true, false] 2)) (n := 4) (by kernel_rfl) rfl ?_
  intro L w1 hs
  refine ⟨[.v (.int .i64 u.kind), .v (.int .i64 u.n), .v (.float .f64 bu), .v (.slice Au u.t.length cu)], rfl, cells_at0 (blk_cells0 ((hs.old 0 rfl g2 l2).trans b2)) rfl, ?_⟩
  clear hs
  refine go mixed 2000 [5, 6, 8] 0 (St.mk (Rg.sq [true, false] 4) [KI.code [true, true]] [(5, SV.agg [cI f.kind, cI f.n, cF bf, cS Af f.t.length cf]), (6, SV.agg [cI u.kind, cI u.n, cF bu, cS Au u.t.length cu]), (8, SV.agg [cI x.key.kind, cI x.key.n, cF bx, cS Ax x.key.t.length cx])] []) (by kernel_rfl) (by kernel_rfl) (by kernel_rfl) ?_
  refine call_pure true (by kernel_rfl : atC _ _ _ true = some (73, [SV.agg [cI f.kind, cI f.n, cF bf, cS Af f.t.length cf], SV.agg [cI u.kind, cI u.n, cF bu, cS Au u.t.length cu], SV.agg [cI x.key.kind, cI x.key.n, cF bx, cS Ax x.key.t.length cx]], some 9, Rg.sq [true, false] 5)) (by kernel_rfl) (.one (.bo (inSpan f u x.key))) (fun L w1 hs => (Go.Proofs.Ytgleoebogikooaa.Dk.iInSpan_ok (f) ([Value.int IntKind.i64 f.kind, Value.int IntKind.i64 f.n, Value.float FloatKind.f64 bf, Value.slice Af f.t.length cf]) (u) ([Value.int IntKind.i64 u.kind, Value.int IntKind.i64 u.n, Value.float FloatKind.f64 bu, Value.slice Au u.t.length cu]) (x.key) ([Value.int IntKind.i64 x.key.kind, Value.int IntKind.i64 x.key.n, Value.float FloatKind.f64 bx, Value.slice Ax x.key.t.length cx]) w1 (Go.Proofs.Ytgleoebogikooaa.Dk.kIt_mk (by assumption) hff (rdRow_ext (hs.old 0 rfl) hrf)) (Go.Proofs.Ytgleoebogikooaa.Dk.kIt_mk (by assumption) hfu (rdRow_ext (hs.old 0 rfl) hru)) (Go.Proofs.Ytgleoebogikooaa.Dk.kIt_mk (by assumption) hfx (rdRow_ext (hs.old 0 rfl) hrx)) (by assumption) (by assumption) (by assumption))) ?_
  refine go mixed 2000 [4] 0 (St.mk Rg.no [KI.code [true, true]] [(4, vB !inSpan f u x.key)] []) (by kernel_rfl) (by kernel_rfl) (by kernel_rfl) ?_
  refine ret_ok (vs := [vB !inSpan f u x.key]) (by kernel_rfl) ?_
  intro L w1 hs
  exact ⟨rfl, hs.out0⟩

theorem iTreeSpan_ok (t : Tr) (cst : List Value) (f : It) (csf : List Value) (u : It) (csu : List Value) (w : World) (ht : kTr.rd w.heap t cst) (hf : kIt.rd w.heap f csf) (hu : kIt.rd w.heap u csu) (hz : zTr t ≤ 1048576) (hby : byTr t) (pf : byOk f.t) (pu : byOk u.t) (lf : f.t.length ≤ 1048576) (lu : u.t.length ≤ 1048576) :
    Calls Try.prog 35 #[.agg cst.toArray, .agg csf.toArray, .agg csu.toArray] w fun e w' => ∃ (B : Option Addr) (d : Nat), e = .returned (.slice B (spanR t f u).length d) ∧ Fresh w w' [rowA 101 kEn (spanR t f u) (.slice B (spanR t f u).length d)] := by
  obtain ⟨Atnodes, ctnodes, rfl, hrtnodes⟩ := kTr_inv ht
  obtain ⟨bff, Aft, cft, rfl, hbff, hfff, hrft⟩ := kIt_inv hf
  obtain ⟨buf, Aut, cut, rfl, hbuf, hfuf, hrut⟩ := kIt_inv hu
  refine enter (args := [.agg [.v (.slice Atnodes t.nodes.length ctnodes), .v (.int .i64 t.root)], .agg [.v (.int .i64 f.kind), .v (.int .i64 f.n), .v (.float .f64 bff), .v (.slice Aft f.t.length cft)], .agg [.v (.int .i64 u.kind), .v (.int .i64 u.n), .v (.float .f64 buf), .v (.slice Aut u.t.length cut)]]) Try.func35 (c := bodyOf Try.f35) rfl rfl (start_LOK _) (start_old w) ?_
  have hkl := key_le hz
  have hzz : zTr t = zRow zNd t.nodes := rfl
  have hz1 : zRow zNd t.nodes = t.nodes.length + (t.nodes.map zNd).sum := rfl
  have hal := allR_len t
  have hak : ∀ x ∈ allR t, x.key.t.length ≤ 1048576 := fun x hx => by
    obtain ⟨n, hn, he⟩ := allR_mem hx
    exact hkl n hn x he
  have hab : ∀ x ∈ allR t, byOk x.key.t := fun x hx => by
    obtain ⟨n, hn, he⟩ := allR_mem hx
    exact hby n hn x he
  have hal3 : (allR t).length ≤ 1048576 := by
    unfold allR
    split
    · rename_i h
      unfold allR at hal
      rw [if_pos h] at hal
      unfold treeOk at h
      simp only [Bool.and_eq_true, decide_eq_true_eq] at h
      omega
    · simp
  refine go mixed 2000 [4, 5, 7] 3 (St.mk (Rg.sq [true, false] 1) [KI.code [true, true]] [(4, vR 1 0), (5, vR 2 0), (7, SV.agg [cS Atnodes t.nodes.length ctnodes, cI t.root])] [LB.mk [cS Atnodes t.nodes.length ctnodes, cI t.root] 29, LB.mk [cI f.kind, cI f.n, cF bff, cS Aft f.t.length cft] 46, LB.mk [cI u.kind, cI u.n, cF buf, cS Aut u.t.length cut] 46]) (by kernel_rfl) (by kernel_rfl) (by kernel_rfl) ?_
  refine call_at true (by kernel_rfl : atC _ _ _ true = some (20, [SV.agg [cS Atnodes t.nodes.length ctnodes, cI t.root]], some 8, Rg.sq [true, false] 2)) (by kernel_rfl) (fun L w1 hs => (Go.Proofs.Ytgleoebogikooaa.Dk.iTreeAll_ok (t) ([Value.slice Atnodes t.nodes.length ctnodes, Value.int IntKind.i64 t.root]) w1 (Go.Proofs.Ytgleoebogikooaa.Dk.kTr_mk (rdRow_ext (hs.old 0 rfl) hrtnodes)) (by assumption) (by assumption)).mono ?_)
  rintro e_ w2_ ⟨B_1, d_1, rfl, hf_⟩
  refine ⟨.one (.v (Value.slice B_1 (allR t).length d_1)), _, _, rfl, fun _ => hf_.1.block, hs.fresh hf_, ?_⟩
  clear hs hf_
  refine go mixed 2000 [8, 9] 3 (St.mk (Rg.sq [true, false] 3) [KI.code [true, true]] [(8, vS B_1 (allR t).length d_1), (9, SV.one (SC.fn 72 [Cap.p 1 0, Cap.p 2 0]))] [LB.mk [cS Atnodes t.nodes.length ctnodes, cI t.root] 29, LB.mk [cI f.kind, cI f.n, cF bff, cS Aft f.t.length cft] 46, LB.mk [cI u.kind, cI u.n, cF buf, cS Aut u.t.length cut] 46]) (by kernel_rfl) (by kernel_rfl) (by kernel_rfl) ?_
  refine h_apart EC.len EC.one (f := EC.cs) (n := 5) rfl kEn_ec (fun l hl1 hrel2 => ?_)
  have hrel : ∀ p ∈ l, p.2.x = p.1 := fun p hp => (hrel2 p hp).1
  have hlen : (allR t).length = (l.map Prod.snd).length := by rw [← hl1, List.length_map, List.length_map]
  have hln : l.length = (allR t).length := by rw [← hl1, List.length_map]
  have hmem : ∀ p ∈ l, p.1 ∈ allR t := fun p hp => by rw [← hl1]; exact List.mem_map_of_mem hp
  have hsp : spanR t f u = (l.filter fun p => inSpan f u p.1.key).map Prod.fst := by rw [filt_fst (q := fun e => inSpan f u e.key), hl1]; rfl
  have hsl : (spanR t f u).length = ((l.filter fun p => inSpan f u p.1.key).map Prod.snd).length := by rw [hsp, List.length_map, List.length_map]
  rw [hlen]
  refine call_mutT (A := [rowA 101 kEC (l.map Prod.snd) (.slice B_1 (l.map Prod.snd).length d_1)]) (by kernel_rfl : atC _ _ _ false = some (71, [vS B_1 (List.map Prod.snd l).length d_1, SV.one (SC.fn 72 [Cap.p 1 0, Cap.p 2 0])], some 10, Rg.sq [true, false] 4)) (by kernel_rfl) (fun L w1 S hs hA hS hT hLn => (delEn_ok (.pointer (some ⟨L.getD 1 0, 0, none⟩)) (.pointer (some ⟨L.getD 2 0, 0, none⟩)) (fun c => !inSpan f u c.x.key) (l.map Prod.snd) B_1 d_1 w1 S hA hS (fun c hc w2 hag hsz => by
    obtain ⟨q, hq, rfl⟩ := List.mem_map.1 hc
    have hold := old_apart (F := [hangA kEn EC.cs l, oldA w]) (by obtain ⟨T, h1, h2⟩ := hT; exact ⟨T, h1, fun b hb => (h2 b hb).1⟩) 1 rfl
    have hag0 : ∀ b, b < w.heap.size → w2.heap[b]? = w.heap[b]? := fun b hb => (hag b (Nat.lt_of_lt_of_le hb hs.1.1.size) (hold.1 b hb)).trans (hold.2 b hb)
    have hL : ∀ i b, ([(⟨[.v (.slice Atnodes t.nodes.length ctnodes), .v (.int .i64 t.root)], 29⟩ : LB), ⟨[.v (.int .i64 f.kind), .v (.int .i64 f.n), .v (.float .f64 bff), .v (.slice Aft f.t.length cft)], 46⟩, ⟨[.v (.int .i64 u.kind), .v (.int .i64 u.n), .v (.float .f64 buf), .v (.slice Aut u.t.length cut)], 46⟩] : List LB)[i]? = some b → w2.heap[L.getD i 0]? = some (.cells (b.cells.map (SC.val L)).toArray b.ty (0, 0)) := fun i b hb => by
      have h3 := hs.2.1.2.2 i b hb
      have hi : i < L.length := by rw [← hs.2.1.1]; exact (List.getElem?_eq_some_iff.1 hb).1
      have hm : L.getD i 0 ∈ L := by
        rw [List.getD_eq_getElem?_getD, List.getElem?_eq_getElem hi]
        exact List.getElem_mem _
      exact (hag _ (hs.inL _ hm) (hLn _ hm)).trans h3
    have hx := frame_hang hT 0 rfl hag q hq
    have hb := hrel q hq
    show Calls _ _ _ _ _
    simp only [hb]
    exact span1_ok f u _ _ q.1 _ _ _ w2 (hL 1 _ rfl) (hL 2 _ rfl) (kIt.ext hag0 hf) (kIt.ext hag0 hu) hx pf pu (hab _ (hmem q hq))) (by omega)).mono ?_)
  rintro e w2 ⟨B2, d2, rfl, hm⟩
  refine ⟨.one (.v (.slice B2 _ d2)), _, rfl, hm, ?_⟩
  clear hm hs hA hS hT hLn
  rw [filt_snd (q := fun e => inSpan f u e.key) hrel]
  refine h_turn (A := [_, _]) (B := [rowA 101 kEn ((l.filter fun p => inSpan f u p.1.key).map Prod.fst) (.slice B2 ((l.filter fun p => inSpan f u p.1.key).map Prod.snd).length d2)]) (fun h S ho => ⟨S, fun _ => False, fun _ hb => hb, fun _ hb => hb.elim, fun _ _ hb => hb, rowA_holds.2 (join_row (hl := EC.len) (h1 := EC.one) rfl (by
    obtain ⟨S1, S2, s1, s2, sd, hrow, S3, S4, s3, s4, sd2, hh, _⟩ := ho
    exact ⟨S1, S2, s1, s2, sd, hrow, S3, S4, s3, s4, sd2, hang_sub List.filter_sublist hh, trivial⟩)), trivial⟩) ?_
  rw [hsl, hsp]
  refine go mixed 2000 [6] 0 (St.mk Rg.no [KI.code [true, true]] [(6, vS B2 (List.map Prod.snd (List.filter (fun p => inSpan f u p.fst.key) l)).length d2)] []) (by kernel_rfl) (by kernel_rfl) (by kernel_rfl) ?_
  refine ret_ok (vs := [vS B2 (List.map Prod.snd (List.filter (fun p => inSpan f u p.fst.key) l)).length d2]) (by kernel_rfl) ?_
  intro L w1 hs
  exact ⟨_, _, rfl, hs.out (As := [_])⟩

end Go.Proofs.Ytgleoebogikooaa.Dk
