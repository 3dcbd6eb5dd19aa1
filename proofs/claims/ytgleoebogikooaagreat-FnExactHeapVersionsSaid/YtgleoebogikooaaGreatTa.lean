/- Walks of functions of the program: what each call returns and what it leaves in memory. Conditions: those that each theorem names. -/
import Derived.Test.YtgleoebogikooaaGreatT9
namespace Go.Proofs.YtgleoebogikooaaGreat.Dk
set_option linter.unusedVariables false
set_option linter.unusedSimpArgs false
open Go.Proofs.YtgleoebogikooaaGreat.Sx Go.Proofs Go.RowKit
set_option maxRecDepth 100000
set_option maxHeartbeats 1000000
theorem tupR_by {b : List Int} {x : Tu} (hby : byOk b) (h : tupR b = some x) : keyOk x.key = true ∧ byOk x.key.t := by
 unfold tupR at h
 split at h
 ·split at h
  ·rename_i k v hk hv
   split at h
   ·rename_i hc
    obtain rfl := Option.some.inj h
    exact ⟨(tupOk_parts hc.1).2.2.2.2.1, (keyR_fact (fun y hy => hby y (List.mem_of_mem_take (List.mem_of_mem_drop hy))) hk).2.1⟩
   ·cases h
  ·cases h
 ·cases h
theorem rowsH_by {h : He} (hb : byHe h) {r : Rw} (hr : r ∈ rowsH h.pages 0) : keyOk r.tuple.key = true ∧ byOk r.tuple.key.t := by
 obtain ⟨p, hp, s, hs, hx⟩ := rowsH_mem _ _ _ hr
 exact tupR_by ((hb p hp).2 s hs).1 hx
theorem rowsR_sub {h : He} {r : Rw} (hr : r ∈ rowsR h) : r ∈ rowsH h.pages 0 := by
 unfold rowsR at hr
 split at hr
 ·exact hr
 ·cases hr
theorem rowsQ_R (h : He) (q : Tu → Bool) : rowsQ h q = (rowsR h).filter (fun r => q r.tuple) := by
 unfold rowsQ rowsR
 split <;> rfl
theorem kRw_key {h : Hp} {x : Rw} {cs : List Value} (hr : kRw.rd h x cs) : kIt.rd h x.tuple.key ((cs.drop 4).take 4) := by
 obtain ⟨b1, A1, c1, b2, A2, c2, rfl, h1, h2, h3, h4, h5, h6⟩ := kRw_inv hr
 exact kIt_mk h1 h2 h3
def versR (h : He) (key : It) : List Rw := if keyOk key = true then rowsQ h (fun x => cmpIt x.key key == 0) else []
theorem outs_step {l : List (Rw × RC)} {q : Rw × RC → Bool} {i : Nat} (h : i < l.length) (hq : q l[i] = true) : ((l.take i).filter q).map Prod.snd ++ [l[i].2] = ((l.take (i + 1)).filter q).map Prod.snd := by
 rw [List.take_succ_eq_append_getElem h, List.filter_append, List.map_append]
 simp [hq]
theorem outs_skip {l : List (Rw × RC)} {q : Rw × RC → Bool} {i : Nat} (h : i < l.length) (hq : q l[i] = false) : ((l.take i).filter q).map Prod.snd = ((l.take (i + 1)).filter q).map Prod.snd := by
 rw [List.take_succ_eq_append_getElem h, List.filter_append, List.map_append]
 simp [hq]
theorem outs_len {l : List (Rw × RC)} {q : Rw × RC → Bool} (i : Nat) : (((l.take i).filter q).map Prod.snd).length ≤ l.length := by
 rw [List.length_map]
 exact Nat.le_trans (List.length_filter_le _ _) (by rw [List.length_take]; omega)
theorem vers1_ok (key : It) (csk : List Value) (x : Tu) (csx : List Value) (g : Nat) (w : World) (b1 : w.heap[g]? = some (.cells csk.toArray 49 (0, 0))) (hk : kIt.rd w.heap key csk) (hx : kTu.rd w.heap x csx) (pk : byOk key.t) (px : byOk x.key.t) :
  Calls Tryz.prog 45 #[.agg csx.toArray, .pointer (some ⟨g, 0, none⟩)] w fun e w' => e = .returned (.bool (cmpIt x.key key == 0)) ∧ Below w.heap.size w w' := by
 obtain ⟨bxkey_f, Axkey_t, cxkey_t, bxvalue_f, Axvalue_t, cxvalue_t, rfl, hbxkey_f, hfxkey_f, hrxkey_t, hbxvalue_f, hfxvalue_f, hrxvalue_t⟩ := kTu_inv hx
 obtain ⟨bkf, Akt, ckt, rfl, hbk, hfk, hrk⟩ := kIt_inv hk
 have l1 := (Array.getElem?_eq_some_iff.1 b1).1
 refine enter (args := [.agg [.v (.int .i64 x.xmin), .v (.int .i64 x.xmax), .v (.int .i64 x.key.kind), .v (.int .i64 x.key.n), .v (.float .f64 bxkey_f), .v (.slice Axkey_t x.key.t.length cxkey_t), .v (.int .i64 x.value.kind), .v (.int .i64 x.value.n), .v (.float .f64 bxvalue_f), .v (.slice Axvalue_t x.value.t.length cxvalue_t)], .one (.v (.pointer (some ⟨g, 0, none⟩)))]) Tryz.func45 (c := bodyOf Tryz.f45) rfl rfl (start_LOK _) (start_old w) ?_
 refine gn 0 (Rg.sq [true, false] 2) [KI.code [true, true]] [(1, vP (Addr.mk g 0 none)), (5, SV.agg [cI x.key.kind, cI x.key.n, cF bxkey_f, cS Axkey_t x.key.t.length cxkey_t])] [] ?_
 refine load_agg 2 (by kernel_rfl : atP _ _ _ 2 true = some (Op.load 49 (tmpO 1), 49, some 6, Rg.sq [true, false] 3)) (n := 4) (by kernel_rfl) rfl ?_
 intro L w1 hs
 refine ⟨[.v (.int .i64 key.kind), .v (.int .i64 key.n), .v (.float .f64 bkf), .v (.slice Akt key.t.length ckt)], rfl, cells_at0 (blk_cells0 ((hs.old 0 rfl g l1).trans b1)) rfl, ?_⟩
 clear hs
 refine gn 0 (Rg.sq [true, false] 3) [KI.code [true, true]] [(5, SV.agg [cI x.key.kind, cI x.key.n, cF bxkey_f, cS Axkey_t x.key.t.length cxkey_t]), (6, SV.agg [cI key.kind, cI key.n, cF bkf, cS Akt key.t.length ckt])] [] ?_
 refine cpk 46 [SV.agg [cI x.key.kind, cI x.key.n, cF bxkey_f, cS Axkey_t x.key.t.length cxkey_t], SV.agg [cI key.kind, cI key.n, cF bkf, cS Akt key.t.length ckt]] (some 7) (Rg.sq [true, false] 4) (.one (.v (Value.int IntKind.i64 (cmpIt x.key key)))) (fun L w1 hs => (iCmpIt_ok (x.key) ([Value.int IntKind.i64 x.key.kind, Value.int IntKind.i64 x.key.n, Value.float FloatKind.f64 bxkey_f, Value.slice Axkey_t x.key.t.length cxkey_t]) (key) ([Value.int IntKind.i64 key.kind, Value.int IntKind.i64 key.n, Value.float FloatKind.f64 bkf, Value.slice Akt key.t.length ckt]) w1 (kIt_mk ‹_› hfxkey_f (rdRow_ext (hs.old 0 rfl) hrxkey_t)) (kIt_mk ‹_› hfk (rdRow_ext (hs.old 0 rfl) hrk)) ‹_› ‹_›)) ?_
 refine gn 0 Rg.no [KI.code [true, true]] [(3, vB (cmpIt x.key key == 0))] [] ?_
 refine rtk [vB (cmpIt x.key key == 0)] ?_
 intro L w1 hs
 exact ⟨rfl, hs.out0⟩
theorem iHVers_ok (h : He) (csh : List Value) (key : It) (cskey : List Value) (w : World) (hh : kHe.rd w.heap h csh) (hkey : kIt.rd w.heap key cskey) (hz : zHe h ≤ 1048576) (hb : byHe h) (pk : byOk key.t) (lk : key.t.length ≤ 1048576) :
  Calls Tryz.prog 23 #[.agg csh.toArray, .agg cskey.toArray] w fun e w' => ∃ (B : Option Addr) (d : Nat), e = .returned (.slice B (versR h key).length d) ∧ Fresh w w' [rowA 64 kRw (versR h key) (.slice B (versR h key).length d)] := by
 obtain ⟨Ahpages, chpages, rfl, hrhpages⟩ := kHe_inv hh
 obtain ⟨bkeyf, Akeyt, ckeyt, rfl, hbkeyf, hfkeyf, hrkeyt⟩ := kIt_inv hkey
 refine enter (args := [.agg [.v (.slice Ahpages h.pages.length chpages)], .agg [.v (.int .i64 key.kind), .v (.int .i64 key.n), .v (.float .f64 bkeyf), .v (.slice Akeyt key.t.length ckeyt)]]) Tryz.func23 (c := bodyOf Tryz.f23) rfl rfl (start_LOK _) (start_old w) ?_
 have hl : h.pages.length ≤ 1048576 := by have hzh : zHe h = h.pages.length + (h.pages.map zPg).sum := rfl; omega
 by_cases hk : ¬ keyOk key = true
 ·have hno : versR h key = [] := if_neg hk
  have nf_9 : (!keyOk key) = true := by rw [Bool.not_eq_true] at hk; rw [hk]; rfl
  refine gn 2 (Rg.sq (bitL 3 1) 1) [kCd (bitL 3 5), KI.code [true, true]] [(2, vR 0 0), (3, vR 1 0), (5, SV.agg [cI key.kind, cI key.n, cF bkeyf, cS Akeyt key.t.length ckeyt])] [LB.mk [cS Ahpages h.pages.length chpages] 30, LB.mk [cI key.kind, cI key.n, cF bkeyf, cS Akeyt key.t.length ckeyt] 49] ?_
  refine cpk 44 [SV.agg [cI key.kind, cI key.n, cF bkeyf, cS Akeyt key.t.length ckeyt]] (some 6) (Rg.sq (bitL 3 1) 2) (.one (.bo (keyOk key))) (fun L w1 hs => (iKeyOk_ok (key) ([Value.int IntKind.i64 key.kind, Value.int IntKind.i64 key.n, Value.float FloatKind.f64 bkeyf, Value.slice Akeyt key.t.length ckeyt]) w1 (kIt_mk ‹_› hfkeyf (rdRow_ext (hs.old 0 rfl) hrkeyt)))) ?_
  refine gn 2 Rg.no [kCd (bitL 3 5), KI.code [true, true]] [(2, vR 0 0), (3, vR 1 0), (7, vB !keyOk key)] [LB.mk [cS Ahpages h.pages.length chpages] 30, LB.mk [cI key.kind, cI key.n, cF bkeyf, cS Akeyt key.t.length ckeyt] 49] ?_
  try simp only [flx, hbkeyf, hfkeyf, nf_9]
  refine gn 2 Rg.no [kCd (bitL 3 5), KI.code [true, true]] [(2, vR 0 0), (3, vR 1 0), (7, vB true)] [LB.mk [cS Ahpages h.pages.length chpages] 30, LB.mk [cI key.kind, cI key.n, cF bkeyf, cS Akeyt key.t.length ckeyt] 49] ?_
  refine ltk 7 true ?_
  refine gn 0 Rg.no [kCd (bitL 5 21), KI.code [true, true]] [(4, vS none 0 0)] [] ?_
  refine rtk [vS none 0 0] ?_
  intro L w1 hs
  exact ⟨none, 0, by rw [hno]; rfl, by rw [hno]; exact hs.out1 rowA_nil⟩
 replace hk : keyOk key = true := Classical.not_not.1 hk
 have nf_9 : (!keyOk key) = false := by rw [hk]; rfl
 have hyes : versR h key = rowsQ h (fun x => cmpIt x.key key == 0) := if_pos hk
 rw [hyes]
 refine gn 2 (Rg.sq (bitL 3 1) 1) [kCd (bitL 3 5), KI.code [true, true]] [(2, vR 0 0), (3, vR 1 0), (5, SV.agg [cI key.kind, cI key.n, cF bkeyf, cS Akeyt key.t.length ckeyt])] [LB.mk [cS Ahpages h.pages.length chpages] 30, LB.mk [cI key.kind, cI key.n, cF bkeyf, cS Akeyt key.t.length ckeyt] 49] ?_
 refine cpk 44 [SV.agg [cI key.kind, cI key.n, cF bkeyf, cS Akeyt key.t.length ckeyt]] (some 6) (Rg.sq (bitL 3 1) 2) (.one (.bo (keyOk key))) (fun L w1 hs => (iKeyOk_ok (key) ([Value.int IntKind.i64 key.kind, Value.int IntKind.i64 key.n, Value.float FloatKind.f64 bkeyf, Value.slice Akeyt key.t.length ckeyt]) w1 (kIt_mk ‹_› hfkeyf (rdRow_ext (hs.old 0 rfl) hrkeyt)))) ?_
 refine gn 2 Rg.no [kCd (bitL 3 5), KI.code [true, true]] [(2, vR 0 0), (3, vR 1 0), (7, vB !keyOk key)] [LB.mk [cS Ahpages h.pages.length chpages] 30, LB.mk [cI key.kind, cI key.n, cF bkeyf, cS Akeyt key.t.length ckeyt] 49] ?_
 try simp only [flx, hbkeyf, hfkeyf, nf_9]
 refine gn 2 Rg.no [kCd (bitL 3 5), KI.code [true, true]] [(2, vR 0 0), (3, vR 1 0), (7, vB false)] [LB.mk [cS Ahpages h.pages.length chpages] 30, LB.mk [cI key.kind, cI key.n, cF bkeyf, cS Akeyt key.t.length ckeyt] 49] ?_
 refine ltk 7 false ?_
 refine gn 2 (Rg.sq (bitL 3 3) 2) [kCd (bitL 3 7)] [(8, SV.agg [cS Ahpages h.pages.length chpages]), (9, SV.one (SC.fn 45 [Cap.p 1 0]))] [LB.mk [cS Ahpages h.pages.length chpages] 30, LB.mk [cI key.kind, cI key.n, cF bkeyf, cS Akeyt key.t.length ckeyt] 49] ?_
 refine cak 30 [SV.agg [cS Ahpages h.pages.length chpages], SV.one (SC.fn 45 [Cap.p 1 0])] (some 10) (Rg.sq (bitL 3 3) 3) (fun L w1 hs => (rowsOf1_ok 45 (by kernel_rfl) (.pointer (some ⟨L.getD 1 0, 0, none⟩)) (fun x => cmpIt x.key key == 0) h _ w1 (kHe_mk (rdRow_ext (hs.old 0 rfl) hrhpages)) hz hb (fun r hr w2 hag cs hcs => by
  have h3 := hs.2.1.2.2 1 _ rfl
  have h4 := (hag _ (Array.getElem?_eq_some_iff.1 h3).1).trans h3
  exact vers1_ok key _ r.tuple cs _ w2 h4 (kIt.ext (fun b hb => (hag b (Nat.lt_of_lt_of_le hb hs.1.1.size)).trans (hs.old 0 rfl b hb)) hkey) hcs pk (rowsH_by hb hr).2)).mono ?_)
 rintro e w2 ⟨B1, d1, rfl, hf⟩
 refine ⟨.one (.v (.slice B1 _ d1)), _, _, rfl, fun _ => hf.1.block, hs.fresh hf, ?_⟩
 clear hs hf
 refine gn 0 Rg.no [kCd (bitL 3 7)] [(4, vS B1 (rowsQ h fun x => cmpIt x.key key == 0).length d1)] [] ?_
 refine rtk [vS B1 (rowsQ h fun x => cmpIt x.key key == 0).length d1] ?_
 intro L w1 hs
 exact ⟨_, _, rfl, hs.out (As := [_])⟩
theorem sHVers_ok (h : He) (csh : List Value) (key : It) (cskey : List Value) (w : World) (hh : kHe.rd w.heap h csh) (hkey : kIt.rd w.heap key cskey) (hz : zHe h ≤ 1048576) (hb : byHe h) (pk : byOk key.t) (lk : key.t.length ≤ 1048576) :
  Calls Tryz.prog 21 #[.agg csh.toArray, .agg cskey.toArray] w fun e w' => ∃ (B : Option Addr) (d : Nat), e = .returned (.slice B (versR h key).length d) ∧ Fresh w w' [rowA 64 kRw (versR h key) (.slice B (versR h key).length d)] := by
 obtain ⟨Ahpages, chpages, rfl, hrhpages⟩ := kHe_inv hh
 obtain ⟨bkeyf, Akeyt, ckeyt, rfl, hbkeyf, hfkeyf, hrkeyt⟩ := kIt_inv hkey
 refine enter (args := [.agg [.v (.slice Ahpages h.pages.length chpages)], .agg [.v (.int .i64 key.kind), .v (.int .i64 key.n), .v (.float .f64 bkeyf), .v (.slice Akeyt key.t.length ckeyt)]]) Tryz.func21 (c := bodyOf Tryz.f21) rfl rfl (start_LOK _) (start_old w) ?_
 have hl : h.pages.length ≤ 1048576 := by have hzh : zHe h = h.pages.length + (h.pages.map zPg).sum := rfl; omega
 by_cases hk : ¬ keyOk key = true
 ·have hno : versR h key = [] := if_neg hk
  have nf_9 : (!keyOk key) = true := by rw [Bool.not_eq_true] at hk; rw [hk]; rfl
  refine gn 2 (Rg.sq (bitL 4 3) 1) [kCd (bitL 4 11), kCd (bitL 3 7)] [(2, vR 0 0), (3, vR 1 0), (5, vS none 0 0), (8, SV.agg [cI key.kind, cI key.n, cF bkeyf, cS Akeyt key.t.length ckeyt])] [LB.mk [cS Ahpages h.pages.length chpages] 30, LB.mk [cI key.kind, cI key.n, cF bkeyf, cS Akeyt key.t.length ckeyt] 49] ?_
  refine cpk 41 [SV.agg [cI key.kind, cI key.n, cF bkeyf, cS Akeyt key.t.length ckeyt]] (some 9) (Rg.sq (bitL 4 3) 2) (.one (.bo (keyOk key))) (fun L w1 hs => (sKeyOk_ok (key) ([Value.int IntKind.i64 key.kind, Value.int IntKind.i64 key.n, Value.float FloatKind.f64 bkeyf, Value.slice Akeyt key.t.length ckeyt]) w1 (kIt_mk ‹_› hfkeyf (rdRow_ext (hs.old 0 rfl) hrkeyt)))) ?_
  refine gn 2 Rg.no [kCd (bitL 4 11), kCd (bitL 3 7)] [(2, vR 0 0), (3, vR 1 0), (5, vS none 0 0), (10, vB !keyOk key)] [LB.mk [cS Ahpages h.pages.length chpages] 30, LB.mk [cI key.kind, cI key.n, cF bkeyf, cS Akeyt key.t.length ckeyt] 49] ?_
  try simp only [flx, hbkeyf, hfkeyf, nf_9]
  refine gn 2 Rg.no [kCd (bitL 4 11), kCd (bitL 3 7)] [(2, vR 0 0), (3, vR 1 0), (5, vS none 0 0), (10, vB true)] [LB.mk [cS Ahpages h.pages.length chpages] 30, LB.mk [cI key.kind, cI key.n, cF bkeyf, cS Akeyt key.t.length ckeyt] 49] ?_
  refine ltk 10 true ?_
  refine gn 0 Rg.no [kCd (bitL 6 43), kCd (bitL 3 7)] [(4, vS none 0 0)] [] ?_
  refine rtk [vS none 0 0] ?_
  intro L w1 hs
  exact ⟨none, 0, by rw [hno]; rfl, by rw [hno]; exact hs.out1 rowA_nil⟩
 replace hk : keyOk key = true := Classical.not_not.1 hk
 have nf_9 : (!keyOk key) = false := by rw [hk]; rfl
 have hyes : versR h key = rowsQ h (fun x => cmpIt x.key key == 0) := if_pos hk
 rw [hyes]
 rw [rowsQ_R]
 obtain ⟨xs, hxs⟩ : ∃ xs, rowsR h = xs := ⟨_, rfl⟩
 refine gn 2 (Rg.sq (bitL 4 3) 1) [kCd (bitL 4 11), kCd (bitL 3 7)] [(2, vR 0 0), (3, vR 1 0), (5, vS none 0 0), (8, SV.agg [cI key.kind, cI key.n, cF bkeyf, cS Akeyt key.t.length ckeyt])] [LB.mk [cS Ahpages h.pages.length chpages] 30, LB.mk [cI key.kind, cI key.n, cF bkeyf, cS Akeyt key.t.length ckeyt] 49] ?_
 refine cpk 41 [SV.agg [cI key.kind, cI key.n, cF bkeyf, cS Akeyt key.t.length ckeyt]] (some 9) (Rg.sq (bitL 4 3) 2) (.one (.bo (keyOk key))) (fun L w1 hs => (sKeyOk_ok (key) ([Value.int IntKind.i64 key.kind, Value.int IntKind.i64 key.n, Value.float FloatKind.f64 bkeyf, Value.slice Akeyt key.t.length ckeyt]) w1 (kIt_mk ‹_› hfkeyf (rdRow_ext (hs.old 0 rfl) hrkeyt)))) ?_
 refine gn 2 Rg.no [kCd (bitL 4 11), kCd (bitL 3 7)] [(2, vR 0 0), (3, vR 1 0), (5, vS none 0 0), (10, vB !keyOk key)] [LB.mk [cS Ahpages h.pages.length chpages] 30, LB.mk [cI key.kind, cI key.n, cF bkeyf, cS Akeyt key.t.length ckeyt] 49] ?_
 try simp only [flx, hbkeyf, hfkeyf, nf_9]
 refine gn 2 Rg.no [kCd (bitL 4 11), kCd (bitL 3 7)] [(2, vR 0 0), (3, vR 1 0), (5, vS none 0 0), (10, vB false)] [LB.mk [cS Ahpages h.pages.length chpages] 30, LB.mk [cI key.kind, cI key.n, cF bkeyf, cS Akeyt key.t.length ckeyt] 49] ?_
 refine ltk 10 false ?_
 refine gn 2 (Rg.sq (bitL 4 7) 1) [kCd (bitL 4 15)] [(3, vR 1 0), (5, vS none 0 0), (12, SV.agg [cS Ahpages h.pages.length chpages])] [LB.mk [cS Ahpages h.pages.length chpages] 30, LB.mk [cI key.kind, cI key.n, cF bkeyf, cS Akeyt key.t.length ckeyt] 49] ?_
 refine cak 7 [SV.agg [cS Ahpages h.pages.length chpages]] (some 13) (Rg.sq (bitL 4 7) 2) (fun L w1 hs => (sHRowsX_ok (h) ([Value.slice Ahpages h.pages.length chpages]) w1 (xs) (kHe_mk (rdRow_ext (hs.old 0 rfl) hrhpages)) ‹_› ‹_› hxs).mono ?_)
 rintro e_ w2_ ⟨B_1, d_1, rfl, hf_⟩
 refine ⟨.one (.v (Value.slice B_1 xs.length d_1)), _, _, rfl, fun _ => hf_.1.block, hs.fresh hf_, ?_⟩
 clear hs hf_
 refine gn 2 Rg.no [kLp (bitL 8 239), KI.block 0, kCd (bitL 5 31)] [(3, vR 1 0), (5, vS none 0 0), (6, vS B_1 xs.length d_1), (7, vI 0)] [LB.mk [cS Ahpages h.pages.length chpages] 30, LB.mk [cI key.kind, cI key.n, cF bkeyf, cS Akeyt key.t.length ckeyt] 49] ?_
 subst hxs
 have hrn := rowsR_len h
 refine h_apart RC.len RC.one (f := RC.cs) (n := 12) rfl kRw_rc (fun l hl1 hrel => ?_)
 have hlen : (rowsR h).length = (l.map Prod.snd).length := by rw [← hl1, List.length_map, List.length_map]
 have hln : l.length = (rowsR h).length := by rw [← hl1, List.length_map]
 have hmem : ∀ p ∈ l, p.1 ∈ rowsR h := fun p hp => by rw [← hl1]; exact List.mem_map_of_mem hp
 have hsp : (rowsR h).filter (fun r => cmpIt r.tuple.key key == 0) = (l.filter fun p => cmpIt p.1.tuple.key key == 0).map Prod.fst := by rw [rfilt_fst (q := fun r => cmpIt r.tuple.key key == 0), hl1]
 have hsl : ((rowsR h).filter (fun r => cmpIt r.tuple.key key == 0)).length = ((l.filter fun p => cmpIt p.1.tuple.key key == 0).map Prod.snd).length := by rw [hsp, List.length_map, List.length_map]
 rw [hlen]
 refine h_nil 64 kRC ?_
 refine loop_at (ι := Nat × Option Addr × Nat) (fun s => [(7, .one (.v (.int .i64 s.1))), (5, .one (.v (.slice s.2.1 (((l.take s.1).filter fun p => cmpIt p.1.tuple.key key == 0).map Prod.snd).length s.2.2)))]) (fun _ => []) (fun s => [rowA 64 kRC (((l.take s.1).filter fun p => cmpIt p.1.tuple.key key == 0).map Prod.snd) (.slice s.2.1 (((l.take s.1).filter fun p => cmpIt p.1.tuple.key key == 0).map Prod.snd).length s.2.2), rowA 64 kRC (l.map Prod.snd) (.slice B_1 (l.map Prod.snd).length d_1), hangA kRw RC.cs l, oldA w]) (fun s => s.1 ≤ l.length) (fun s => l.length - s.1) (0, none, 0) rfl rfl rfl (Nat.zero_le _) ?_
 rintro ⟨i, B, d⟩ hi ih
 simp only at hi ih ⊢
 have ho1 := outs_len (l := l) (q := fun p => cmpIt p.1.tuple.key key == 0) i
 rcases Nat.lt_or_ge i l.length with hlt | hge
 ·have hlt2 : i < (l.map Prod.snd).length := by rw [List.length_map]; exact hlt
  have hget : (l.map Prod.snd)[i]? = some l[i].2 := by simp [hlt]
  have hri := hrel _ (List.getElem_mem hlt)
  refine gn 2 Rg.no [kCd (bitL 10 751), kCd (bitL 9 495), kLp (bitL 8 239), KI.block 0, kCd (bitL 5 31)] [(3, vR 1 0), (5, vS B (List.map Prod.snd (List.filter (fun p => cmpIt p.fst.tuple.key key == 0) (List.take i l))).length d), (6, vS B_1 (List.map Prod.snd l).length d_1), (7, vI (↑i : Int)), (17, vB (decide ((↑i : Int) < (↑(List.map Prod.snd l).length : Int))))] [LB.mk [cS Ahpages h.pages.length chpages] 30, LB.mk [cI key.kind, cI key.n, cF bkeyf, cS Akeyt key.t.length ckeyt] 49] ?_
  refine spl 17 (decide ((↑i : Int) < (↑(List.map Prod.snd l).length : Int))) ?_ ?_
  rotate_left
  ·intro hb1
   replace hb1 := of_decide_eq_false hb1
   (exfalso; omega)
  intro hb1
  replace hb1 := of_decide_eq_true hb1
  refine gn 2 (Rg.dr (bitL 12 1519) (bitL 9 67) 6 2) [kCd (bitL 12 3567), KI.block 1, kCd (bitL 10 1007), kLp (bitL 8 239), KI.block 0, kCd (bitL 5 31)] [(3, vR 1 0), (5, vS B (List.map Prod.snd (List.filter (fun p => cmpIt p.fst.tuple.key key == 0) (List.take i l))).length d), (6, vS B_1 (List.map Prod.snd l).length d_1), (7, vI (↑i : Int)), (20, vS B_1 (List.map Prod.snd l).length d_1), (21, vI (↑i : Int)), (26, SV.agg [cI key.kind, cI key.n, cF bkeyf, cS Akeyt key.t.length ckeyt])] [LB.mk [cS Ahpages h.pages.length chpages] 30, LB.mk [cI key.kind, cI key.n, cF bkeyf, cS Akeyt key.t.length ckeyt] 49] ?_
  refine index_at 2 (by kernel_rfl : atP _ _ _ 2 false = some (Op.indexAddr 26 (tmpO 20) (tmpO 21), 0, some 22, Rg.dr (bitL 12 1519) (bitL 9 71) 5 2)) (ni := i) (sz := 12) (by kernel_rfl) rfl rfl rfl ‹_› (fun L w1 hs => rd_some (i := i) (hs.rd 1 rfl) ‹_›) ?_
  intro a_1 ha_1
  cases ha_1
  refine gn 2 (Rg.dr (bitL 12 1519) (bitL 9 95) 3 2) [kCd (bitL 12 3567), KI.block 1, kCd (bitL 10 1007), kLp (bitL 8 239), KI.block 0, kCd (bitL 5 31)] [(3, vR 1 0), (5, vS B (List.map Prod.snd (List.filter (fun p => cmpIt p.fst.tuple.key key == 0) (List.take i l))).length d), (6, vS (some a_1) (List.map Prod.snd l).length d_1), (7, vI (↑i : Int)), (24, vP (((a_1.add (i * 12)).add 2).add 2)), (26, SV.agg [cI key.kind, cI key.n, cF bkeyf, cS Akeyt key.t.length ckeyt])] [LB.mk [cS Ahpages h.pages.length chpages] 30, LB.mk [cI key.kind, cI key.n, cF bkeyf, cS Akeyt key.t.length ckeyt] 49] ?_
  refine load_agg 5 (by kernel_rfl : atP _ _ _ 5 true = some (Op.load 49 (tmpO 24), 49, some 25, Rg.dr (bitL 12 1519) (bitL 9 127) 2 2)) (n := 4) (by kernel_rfl) rfl ?_
  intro L w1 hs
  refine ⟨[.v (.int .i64 l[i].2.x.tuple.key.kind), .v (.int .i64 l[i].2.x.tuple.key.n), .v (.float .f64 l[i].2.b1), .v (.slice l[i].2.A1 l[i].2.x.tuple.key.t.length l[i].2.c1)], rfl, cells_at 4 (rc_at (hs.rd 1 rfl) hget) rfl, ?_⟩
  clear hs
  refine gn 2 (Rg.dr (bitL 12 1519) (bitL 9 127) 2 2) [kCd (bitL 12 3567), KI.block 1, kCd (bitL 10 1007), kLp (bitL 8 239), KI.block 0, kCd (bitL 5 31)] [(3, vR 1 0), (5, vS B (List.map Prod.snd (List.filter (fun p => cmpIt p.fst.tuple.key key == 0) (List.take i l))).length d), (6, vS (some a_1) (List.map Prod.snd l).length d_1), (7, vI (↑i : Int)), (25, SV.agg [cI l[i].snd.x.tuple.key.kind, cI l[i].snd.x.tuple.key.n, cF l[i].snd.b1, cS l[i].snd.3 l[i].snd.x.tuple.key.t.length l[i].snd.c1]), (26, SV.agg [cI key.kind, cI key.n, cF bkeyf, cS Akeyt key.t.length ckeyt])] [LB.mk [cS Ahpages h.pages.length chpages] 30, LB.mk [cI key.kind, cI key.n, cF bkeyf, cS Akeyt key.t.length ckeyt] 49] ?_
  have hky := rowsH_by hb (rowsR_sub (hmem _ (List.getElem_mem hlt)))
  have hkl := (rowsR_sl h _ (hmem _ (List.getElem_mem hlt))).1
  refine cpk 42 [SV.agg [cI l[i].snd.x.tuple.key.kind, cI l[i].snd.x.tuple.key.n, cF l[i].snd.b1, cS l[i].snd.3 l[i].snd.x.tuple.key.t.length l[i].snd.c1], SV.agg [cI key.kind, cI key.n, cF bkeyf, cS Akeyt key.t.length ckeyt]] (some 27) (Rg.dr (bitL 12 1519) (bitL 9 255) 1 12) (.one (.v (.int .i64 (cmpIt l[i].1.tuple.key key)))) (fun L w1 hs => by
   have h9 := sItemCmp_ok l[i].1.tuple.key _ key _ w1 (by obtain ⟨_, _, hh⟩ := hs.at_ 2 rfl; exact kRw_key (kRw.read (hang_get hh (List.getElem?_eq_getElem hlt)))) (kIt.ext (hs.old 3 rfl) hkey) (by omega) lk
   rw [keyOk_ok hky.1, keyOk_ok hk] at h9
   exact h9) ?_
  refine gn 2 Rg.no [kCd (bitL 12 3567), KI.block 1, kCd (bitL 10 1007), kLp (bitL 8 239), KI.block 0, kCd (bitL 5 31)] [(3, vR 1 0), (5, vS B (List.map Prod.snd (List.filter (fun p => cmpIt p.fst.tuple.key key == 0) (List.take i l))).length d), (6, vS (some a_1) (List.map Prod.snd l).length d_1), (7, vI (↑i : Int)), (28, vB (cmpIt l[i].fst.tuple.key key == 0))] [LB.mk [cS Ahpages h.pages.length chpages] 30, LB.mk [cI key.kind, cI key.n, cF bkeyf, cS Akeyt key.t.length ckeyt] 49] ?_
  refine spl 28 (cmpIt l[i].fst.tuple.key key == 0) ?_ ?_
  ·intro hb
   refine gn 2 (Rg.sq (bitL 13 3567) 3) [KI.block 1, kCd (bitL 10 1007), kLp (bitL 8 239), KI.block 0, kCd (bitL 5 31)] [(3, vR 1 0), (6, vS (some a_1) (List.map Prod.snd l).length d_1), (7, vI (↑i : Int)), (29, vS B (List.map Prod.snd (List.filter (fun p => cmpIt p.fst.tuple.key key == 0) (List.take i l))).length d), (30, vS (some a_1) (List.map Prod.snd l).length d_1), (31, vI (↑i : Int))] [LB.mk [cS Ahpages h.pages.length chpages] 30, LB.mk [cI key.kind, cI key.n, cF bkeyf, cS Akeyt key.t.length ckeyt] 49] ?_
   refine index_at 3 (by kernel_rfl : atP _ _ _ 3 false = some (Op.indexAddr 26 (tmpO 30) (tmpO 31), 0, some 32, Rg.sq (bitL 13 3567) 4)) (ni := i) (sz := 12) (by kernel_rfl) rfl rfl rfl ‹_› (fun L w1 hs => rd_some (i := i) (hs.rd 1 rfl) ‹_›) ?_
   intro a_2 ha_2
   cases ha_2
   refine gn 2 (Rg.sq (bitL 13 3567) 4) [KI.block 1, kCd (bitL 10 1007), kLp (bitL 8 239), KI.block 0, kCd (bitL 5 31)] [(3, vR 1 0), (6, vS (some a_1) (List.map Prod.snd l).length d_1), (7, vI (↑i : Int)), (29, vS B (List.map Prod.snd (List.filter (fun p => cmpIt p.fst.tuple.key key == 0) (List.take i l))).length d), (32, vP (a_1.add (i * 12)))] [LB.mk [cS Ahpages h.pages.length chpages] 30, LB.mk [cI key.kind, cI key.n, cF bkeyf, cS Akeyt key.t.length ckeyt] 49] ?_
   refine load_agg 4 (by kernel_rfl : atP _ _ _ 4 true = some (Op.load 64 (tmpO 32), 64, some 33, Rg.sq (bitL 13 3567) 5)) (n := 12) (by kernel_rfl) rfl ?_
   intro L w1 hs
   refine ⟨RC.scs l[i].2, rfl, cells_at0 (scs := RC.scs l[i].2) (rc_at (hs.rd 1 rfl) hget) rfl, ?_⟩
   clear hs
   unfold RC.scs
   refine gn 3 (Rg.sq (bitL 13 3567) 6) [KI.block 1, kCd (bitL 10 1007), kLp (bitL 8 239), KI.block 0, kCd (bitL 5 31)] [(3, vR 1 0), (6, vS (some a_1) (List.map Prod.snd l).length d_1), (7, vI (↑i : Int)), (29, vS B (List.map Prod.snd (List.filter (fun p => cmpIt p.fst.tuple.key key == 0) (List.take i l))).length d), (34, SV.one (SC.sl 2 0 1 1))] [LB.mk [cS Ahpages h.pages.length chpages] 30, LB.mk [cI key.kind, cI key.n, cF bkeyf, cS Akeyt key.t.length ckeyt] 49, LB.mk [cI l[i].snd.x.page, cI l[i].snd.x.slot, cI l[i].snd.x.tuple.xmin, cI l[i].snd.x.tuple.xmax, cI l[i].snd.x.tuple.key.kind, cI l[i].snd.x.tuple.key.n, cF l[i].snd.b1, cS l[i].snd.3 l[i].snd.x.tuple.key.t.length l[i].snd.c1, cI l[i].snd.x.tuple.value.kind, cI l[i].snd.x.tuple.value.n, cF l[i].snd.b2, cS l[i].snd.6 l[i].snd.x.tuple.value.t.length l[i].snd.c2] 64] ?_
   refine h_conseq (fun L w hs => ⟨_, hs.triv (A := elA kRC l[i].2 (RC.cs l[i].2)) rfl, ?_⟩)
   refine h_swap ?_
   refine append_lit (d := kRC) (y := l[i].2) (by_ := 128) (by kernel_rfl : atB _ _ _ false = some (Op.call (Call.mk (Callee.builtin Builtin.append) #[tmpO 29, tmpO 34] #[26, 26]), 26, some 35, Rg.sq (bitL 13 3567) 7)) (by kernel_rfl) rfl rfl rfl rfl (by simp only [maxLen]; omega) (by omega) ?_
   intro B' d'
   rw [outs_step (q := fun p => cmpIt p.1.tuple.key key == 0) hlt hb]
   refine gn 2 Rg.no [kLp (bitL 8 239), KI.block 0, kCd (bitL 5 31)] [(3, vR 1 0), (5, vS B' (List.map Prod.snd (List.filter (fun p => cmpIt p.fst.tuple.key key == 0) (List.take (i + 1) l))).length d'), (6, vS (some a_1) (List.map Prod.snd l).length d_1), (7, vI (IntKind.i64.wrap ((↑i : Int) + 1)))] [LB.mk [cS Ahpages h.pages.length chpages] 30, LB.mk [cI key.kind, cI key.n, cF bkeyf, cS Akeyt key.t.length ckeyt] 49] ?_
   rw [wrap_succ (by omega)]
   exact ih (i + 1, B', d') hlt (by simp only; omega)
  ·intro hb
   rw [outs_skip (q := fun p => cmpIt p.1.tuple.key key == 0) hlt hb]
   refine gn 2 Rg.no [kLp (bitL 8 239), KI.block 0, kCd (bitL 5 31)] [(3, vR 1 0), (5, vS B (List.map Prod.snd (List.filter (fun p => cmpIt p.fst.tuple.key key == 0) (List.take (i + 1) l))).length d), (6, vS (some a_1) (List.map Prod.snd l).length d_1), (7, vI (IntKind.i64.wrap ((↑i : Int) + 1)))] [LB.mk [cS Ahpages h.pages.length chpages] 30, LB.mk [cI key.kind, cI key.n, cF bkeyf, cS Akeyt key.t.length ckeyt] 49] ?_
   rw [wrap_succ (by omega)]
   exact ih (i + 1, B, d) hlt (by simp only; omega)
 ·obtain rfl : i = l.length := by omega
  have hge2 : (l.map Prod.snd).length ≤ l.length := by rw [List.length_map]; omega
  rw [List.take_length]
  refine h_erase 1 _ rfl ?_
  refine h_turn (A := [_, _]) (B := [rowA 64 kRw ((l.filter fun p => cmpIt p.1.tuple.key key == 0).map Prod.fst) (.slice B ((l.filter fun p => cmpIt p.1.tuple.key key == 0).map Prod.snd).length d)]) (fun h S ho => ⟨S, fun _ => False, fun _ hb => hb, fun _ hb => hb.elim, fun _ _ hb => hb, rowA_holds.2 (join_row (hl := RC.len) (h1 := RC.one) rfl (by
   obtain ⟨S1, S2, s1, s2, sd, hrow, S3, S4, s3, s4, sd2, hh, _⟩ := ho
   exact ⟨S1, S2, s1, s2, sd, hrow, S3, S4, s3, s4, sd2, hang_sub List.filter_sublist hh, trivial⟩)), trivial⟩) ?_
  rw [hsl, hsp]
  refine gn 2 Rg.no [kCd (bitL 10 751), kCd (bitL 9 495), kLp (bitL 8 239), KI.block 0, kCd (bitL 5 31)] [(3, vR 1 0), (5, vS B (List.map Prod.snd (List.filter (fun p => cmpIt p.fst.tuple.key key == 0) l)).length d), (6, vS B_1 (List.map Prod.snd l).length d_1), (7, vI (↑l.length : Int)), (17, vB (decide ((↑l.length : Int) < (↑(List.map Prod.snd l).length : Int))))] [LB.mk [cS Ahpages h.pages.length chpages] 30, LB.mk [cI key.kind, cI key.n, cF bkeyf, cS Akeyt key.t.length ckeyt] 49] ?_
  refine spl 17 (decide ((↑l.length : Int) < (↑(List.map Prod.snd l).length : Int))) ?_ ?_
  ·intro hb1
   replace hb1 := of_decide_eq_true hb1
   (exfalso; omega)
  ·intro hb1
   replace hb1 := of_decide_eq_false hb1
   refine gn 0 Rg.no [kCd (bitL 6 63)] [(4, vS B (List.map Prod.snd (List.filter (fun p => cmpIt p.fst.tuple.key key == 0) l)).length d)] [] ?_
   refine rtk [vS B (List.map Prod.snd (List.filter (fun p => cmpIt p.fst.tuple.key key == 0) l)).length d] ?_
   intro L w1 hs
   exact ⟨_, _, rfl, hs.out (As := [_])⟩
end Go.Proofs.YtgleoebogikooaaGreat.Dk
