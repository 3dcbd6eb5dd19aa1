/- Walks of functions of the program: what each call returns and what it leaves in memory. Conditions: those that each theorem names. -/
import Derived.Test.YtgleoebogikooaaGreatT3
import Derived.Test.YtgleoebogikooaaGreatT2
import Derived.Test.YtgleoebogikooaaGreatSxC
namespace Go.Proofs.YtgleoebogikooaaGreat.Dk
set_option linter.unusedVariables false
set_option linter.unusedSimpArgs false
open Go.Proofs.YtgleoebogikooaaGreat.Sx Go.Proofs Go.RowKit
set_option maxRecDepth 100000
set_option maxHeartbeats 1000000
def rowsQ (h : He) (q : Tu → Bool) : List Rw := if heapOk h = true then (rowsH h.pages 0).filter (fun r => q r.tuple) else []
theorem rfilt_fst {l : List (Rw × RC)} {q : Rw → Bool} : ((l.filter fun p => q p.1).map Prod.fst) = (l.map Prod.fst).filter q := by
 rw [List.filter_map]
 rfl
theorem rfilt_snd {l : List (Rw × RC)} {q : Rw → Bool} (hrel : ∀ p ∈ l, p.2.x = p.1) : ((l.map Prod.snd).filter fun c => !(fun c : RC => !q c.x) c) = (l.filter fun p => q p.1).map Prod.snd := by
 rw [List.filter_map]
 congr 1
 refine List.filter_congr fun p hp => ?_
 simp only [Function.comp, Bool.not_not, hrel p hp]
theorem notRw2_ok (F : Nat) (hF : goesB Tryz.prog F = true) (k1 k2 : Value) (q : Bool) (r : Rw) (csr : List Value) (g t : Nat) (w : World) (hg : w.heap[g]? = some (.cells #[.func (.func F) #[] #[k1, k2]] t (0, 0))) (hr : kRw.rd w.heap r csr) (hp : ∀ w1 : World, (∀ b, b < w.heap.size → w1.heap[b]? = w.heap[b]?) → ∀ cs, kTu.rd w1.heap r.tuple cs → Calls Tryz.prog F (#[.agg cs.toArray] ++ #[k1, k2]) w1 fun e w2 => e = .returned (.bool (q)) ∧ Below w1.heap.size w1 w2) :
  Calls Tryz.prog 59 #[.agg csr.toArray, .pointer (some ⟨g, 0, none⟩)] w fun e w' => e = .returned (.bool (!q)) ∧ Below w.heap.size w w' := by
 obtain ⟨bxtuple_key_f, Axtuple_key_t, cxtuple_key_t, bxtuple_value_f, Axtuple_value_t, cxtuple_value_t, rfl, hbxtuple_key_f, hfxtuple_key_f, hrxtuple_key_t, hbxtuple_value_f, hfxtuple_value_f, hrxtuple_value_t⟩ := kRw_inv hr
 have hg0 : cellH w.heap ⟨g, 0, none⟩ = some (.func (.func F) #[] #[k1, k2]) := by
  simp [cellH, hg]
 refine enter (args := [.agg [.v (.int .i64 r.page), .v (.int .i64 r.slot), .v (.int .i64 r.tuple.xmin), .v (.int .i64 r.tuple.xmax), .v (.int .i64 r.tuple.key.kind), .v (.int .i64 r.tuple.key.n), .v (.float .f64 bxtuple_key_f), .v (.slice Axtuple_key_t r.tuple.key.t.length cxtuple_key_t), .v (.int .i64 r.tuple.value.kind), .v (.int .i64 r.tuple.value.n), .v (.float .f64 bxtuple_value_f), .v (.slice Axtuple_value_t r.tuple.value.t.length cxtuple_value_t)], .one (.v (.pointer (some ⟨g, 0, none⟩)))]) Tryz.func59 (c := bodyOf Tryz.f59) rfl rfl (start_LOK _) (start_old w) ?_
 refine gn 1 (Rg.sq [true, false] 0) [KI.code [true, true]] [(1, vP (Addr.mk g 0 none)), (2, vR 0 0)] [LB.mk [cI r.page, cI r.slot, cI r.tuple.xmin, cI r.tuple.xmax, cI r.tuple.key.kind, cI r.tuple.key.n, cF bxtuple_key_f, cS Axtuple_key_t r.tuple.key.t.length cxtuple_key_t, cI r.tuple.value.kind, cI r.tuple.value.n, cF bxtuple_value_f, cS Axtuple_value_t r.tuple.value.t.length cxtuple_value_t] 64] ?_
 refine load_one 0 (by kernel_rfl : atP _ _ _ 0 true = some (Op.load 67 (tmpO 1), 67, some 4, Rg.sq [true, false] 1)) (n := 1) (by kernel_rfl) rfl ?_
 intro L w1 hs
 refine ⟨.v (.func (.func F) #[] #[k1, k2]), cellH_ext (hs.old 0 rfl) hg0, ?_⟩
 clear hs
 refine gn 0 (Rg.sq [true, false] 3) [KI.code [true, true]] [(4, SV.one (SC.v (Value.func (Fn.func F) #[] #[k1, k2]))), (6, SV.agg [cI r.tuple.xmin, cI r.tuple.xmax, cI r.tuple.key.kind, cI r.tuple.key.n, cF bxtuple_key_f, cS Axtuple_key_t r.tuple.key.t.length cxtuple_key_t, cI r.tuple.value.kind, cI r.tuple.value.n, cF bxtuple_value_f, cS Axtuple_value_t r.tuple.value.t.length cxtuple_value_t])] [] ?_
 refine call_pure true (by kernel_rfl : atC _ _ _ true = some (F, [SV.agg [cI r.tuple.xmin, cI r.tuple.xmax, cI r.tuple.key.kind, cI r.tuple.key.n, cF bxtuple_key_f, cS Axtuple_key_t r.tuple.key.t.length cxtuple_key_t, cI r.tuple.value.kind, cI r.tuple.value.n, cF bxtuple_value_f, cS Axtuple_value_t r.tuple.value.t.length cxtuple_value_t], SV.one (SC.v k1), SV.one (SC.v k2)], some 7, Rg.sq [true, false] 4)) hF (.one (.bo q)) (fun L w1 hs => hp w1 (hs.old 0 rfl) _ (kTu_mk hbxtuple_key_f hfxtuple_key_f (rdRow_ext (hs.old 0 rfl) hrxtuple_key_t) hbxtuple_value_f hfxtuple_value_f (rdRow_ext (hs.old 0 rfl) hrxtuple_value_t))) ?_
 refine gn 0 Rg.no [KI.code [true, true]] [(3, vB !q)] [] ?_
 refine rtk [vB !q] ?_
 intro L w1 hs
 exact ⟨rfl, hs.out0⟩
theorem rowsOf2_ok (F : Nat) (hF : goesB Tryz.prog F = true) (k1 k2 : Value) (q : Tu → Bool) (h : He) (csh : List Value) (w : World) (hh : kHe.rd w.heap h csh) (hz : zHe h ≤ 1048576) (hb : byHe h) (hq : ∀ r ∈ rowsH h.pages 0, ∀ w1 : World, (∀ b, b < w.heap.size → w1.heap[b]? = w.heap[b]?) → ∀ cs, kTu.rd w1.heap r.tuple cs → Calls Tryz.prog F (#[.agg cs.toArray] ++ #[k1, k2]) w1 fun e w2 => e = .returned (.bool (q r.tuple)) ∧ Below w1.heap.size w1 w2) :
  Calls Tryz.prog 30 #[.agg csh.toArray, .func (.func F) #[] #[k1, k2]] w fun e w' => ∃ (B : Option Addr) (d : Nat), e = .returned (.slice B (rowsQ h q).length d) ∧ Fresh w w' [rowA 64 kRw (rowsQ h q) (.slice B (rowsQ h q).length d)] := by
 have hzh : zHe h = h.pages.length + (h.pages.map zPg).sum := rfl
 have hl : h.pages.length ≤ 1048576 := by omega
 have hrn := rowsH_len h.pages 0
 obtain ⟨Ahpages, chpages, rfl, hrhpages⟩ := kHe_inv hh
 refine enter (args := [.agg [.v (.slice Ahpages h.pages.length chpages)], .one (.v (.func (.func F) #[] #[k1, k2]))]) Tryz.func30 (c := bodyOf Tryz.f30) rfl rfl (start_LOK _) (start_old w) ?_
 by_cases hok : ¬ heapOk h = true
 ·have hno : rowsQ h q = [] := if_neg hok
  have nf_9 : (!heapOk h) = true := by rw [Bool.not_eq_true] at hok; rw [hok]; rfl
  refine gn 2 (Rg.sq (bitL 3 1) 1) [kCd (bitL 3 5), KI.code [true, true]] [(2, vR 0 0), (3, vR 1 0), (5, SV.agg [cS Ahpages h.pages.length chpages])] [LB.mk [cS Ahpages h.pages.length chpages] 30, LB.mk [SC.v (Value.func (Fn.func F) #[] #[k1, k2])] 67] ?_
  refine cpk 56 [SV.agg [cS Ahpages h.pages.length chpages]] (some 6) (Rg.sq (bitL 3 1) 2) (.one (.bo (heapOk h))) (fun L w1 hs => (iHeapOk_ok (h) ([Value.slice Ahpages h.pages.length chpages]) w1 (kHe_mk (rdRow_ext (hs.old 0 rfl) hrhpages)) ‹_› ‹_›)) ?_
  refine gn 2 Rg.no [kCd (bitL 3 5), KI.code [true, true]] [(2, vR 0 0), (3, vR 1 0), (7, vB !heapOk h)] [LB.mk [cS Ahpages h.pages.length chpages] 30, LB.mk [SC.v (Value.func (Fn.func F) #[] #[k1, k2])] 67] ?_
  try simp only [flx, nf_9]
  refine gn 2 Rg.no [kCd (bitL 3 5), KI.code [true, true]] [(2, vR 0 0), (3, vR 1 0), (7, vB true)] [LB.mk [cS Ahpages h.pages.length chpages] 30, LB.mk [SC.v (Value.func (Fn.func F) #[] #[k1, k2])] 67] ?_
  refine ltk 7 true ?_
  refine gn 0 Rg.no [kCd (bitL 5 21), KI.code [true, true]] [(4, vS none 0 0)] [] ?_
  refine rtk [vS none 0 0] ?_
  intro L w1 hs
  exact ⟨none, 0, by rw [hno]; rfl, by rw [hno]; exact hs.out1 rowA_nil⟩
 replace hok : heapOk h = true := Classical.not_not.1 hok
 have nf_9 : (!heapOk h) = false := by rw [hok]; rfl
 have hyes : rowsQ h q = (rowsH h.pages 0).filter (fun r => q r.tuple) := if_pos hok
 rw [hyes]
 refine gn 2 (Rg.sq (bitL 3 1) 1) [kCd (bitL 3 5), KI.code [true, true]] [(2, vR 0 0), (3, vR 1 0), (5, SV.agg [cS Ahpages h.pages.length chpages])] [LB.mk [cS Ahpages h.pages.length chpages] 30, LB.mk [SC.v (Value.func (Fn.func F) #[] #[k1, k2])] 67] ?_
 refine cpk 56 [SV.agg [cS Ahpages h.pages.length chpages]] (some 6) (Rg.sq (bitL 3 1) 2) (.one (.bo (heapOk h))) (fun L w1 hs => (iHeapOk_ok (h) ([Value.slice Ahpages h.pages.length chpages]) w1 (kHe_mk (rdRow_ext (hs.old 0 rfl) hrhpages)) ‹_› ‹_›)) ?_
 refine gn 2 Rg.no [kCd (bitL 3 5), KI.code [true, true]] [(2, vR 0 0), (3, vR 1 0), (7, vB !heapOk h)] [LB.mk [cS Ahpages h.pages.length chpages] 30, LB.mk [SC.v (Value.func (Fn.func F) #[] #[k1, k2])] 67] ?_
 try simp only [flx, nf_9]
 refine gn 2 Rg.no [kCd (bitL 3 5), KI.code [true, true]] [(2, vR 0 0), (3, vR 1 0), (7, vB false)] [LB.mk [cS Ahpages h.pages.length chpages] 30, LB.mk [SC.v (Value.func (Fn.func F) #[] #[k1, k2])] 67] ?_
 refine ltk 7 false ?_
 refine gn 2 (Rg.sq (bitL 3 3) 1) [kCd (bitL 3 7)] [(3, vR 1 0), (8, SV.agg [cS Ahpages h.pages.length chpages])] [LB.mk [cS Ahpages h.pages.length chpages] 30, LB.mk [SC.v (Value.func (Fn.func F) #[] #[k1, k2])] 67] ?_
 refine cak 58 [SV.agg [cS Ahpages h.pages.length chpages]] (some 9) (Rg.sq (bitL 3 3) 2) (fun L w1 hs => (iRows_ok (h) ([Value.slice Ahpages h.pages.length chpages]) w1 (kHe_mk (rdRow_ext (hs.old 0 rfl) hrhpages)) ‹_› ‹_›).mono ?_)
 rintro e_ w2_ ⟨B_1, d_1, rfl, hf_⟩
 refine ⟨.one (.v (Value.slice B_1 (rowsH h.pages 0).length d_1)), _, _, rfl, fun _ => hf_.1.block, hs.fresh hf_, ?_⟩
 clear hs hf_
 refine gn 2 (Rg.sq (bitL 3 3) 3) [kCd (bitL 3 7)] [(9, vS B_1 (rowsH h.pages 0).length d_1), (10, SV.one (SC.fn 59 [Cap.p 1 0]))] [LB.mk [cS Ahpages h.pages.length chpages] 30, LB.mk [SC.v (Value.func (Fn.func F) #[] #[k1, k2])] 67] ?_
 refine h_apart RC.len RC.one (f := RC.cs) (n := 12) rfl kRw_rc (fun l hl1 hrel => ?_)
 have hlen : (rowsH h.pages 0).length = (l.map Prod.snd).length := by rw [← hl1, List.length_map, List.length_map]
 have hln : l.length = (rowsH h.pages 0).length := by rw [← hl1, List.length_map]
 have hmem : ∀ p ∈ l, p.1 ∈ rowsH h.pages 0 := fun p hp => by rw [← hl1]; exact List.mem_map_of_mem hp
 have hsp : (rowsH h.pages 0).filter (fun r => q r.tuple) = (l.filter fun p => q p.1.tuple).map Prod.fst := by rw [rfilt_fst (q := fun r => q r.tuple), hl1]
 have hsl : ((rowsH h.pages 0).filter (fun r => q r.tuple)).length = ((l.filter fun p => q p.1.tuple).map Prod.snd).length := by rw [hsp, List.length_map, List.length_map]
 rw [hlen]
 refine call_mutT (A := [rowA 64 kRC (l.map Prod.snd) (.slice B_1 (l.map Prod.snd).length d_1)]) (by kernel_rfl : atC _ _ _ false = some (57, [vS B_1 (List.map Prod.snd l).length d_1, SV.one (SC.fn 59 [Cap.p 1 0])], some 11, Rg.sq (bitL 3 3) 4)) (by kernel_rfl) (fun L w1 S hs hA hS hT hLn => (delRw_ok (.pointer (some ⟨L.getD 1 0, 0, none⟩)) (fun c => !q c.x.tuple) (l.map Prod.snd) B_1 d_1 w1 S hA hS (fun c hc w2 hag hsz => by
  obtain ⟨p, hp, rfl⟩ := List.mem_map.1 hc
  have hold := old_apart (F := [hangA kRw RC.cs l, oldA w]) (by obtain ⟨T, h1, h2⟩ := hT; exact ⟨T, h1, fun b hb => (h2 b hb).1⟩) 1 rfl
  have hag0 : ∀ b, b < w.heap.size → w2.heap[b]? = w.heap[b]? := fun b hb => (hag b (Nat.lt_of_lt_of_le hb hs.1.1.size) (hold.1 b hb)).trans (hold.2 b hb)
  have hL : ∀ i b, ([(⟨[.v (.slice Ahpages h.pages.length chpages)], 30⟩ : LB), ⟨[.v (.func (.func F) #[] #[k1, k2])], 67⟩] : List LB)[i]? = some b → w2.heap[L.getD i 0]? = some (.cells (b.cells.map (SC.val L)).toArray b.ty (0, 0)) := fun i b hb => by
   have h3 := hs.2.1.2.2 i b hb
   have hi : i < L.length := by rw [← hs.2.1.1]; exact (List.getElem?_eq_some_iff.1 hb).1
   have hm : L.getD i 0 ∈ L := by
    rw [List.getD_eq_getElem?_getD, List.getElem?_eq_getElem hi]
    exact List.getElem_mem _
   exact (hag _ (hs.inL _ hm) (hLn _ hm)).trans h3
  have hx := frame_hang hT 0 rfl hag p hp
  have hb := hrel p hp
  show Calls _ _ _ _ _
  simp only [hb]
  exact notRw2_ok F hF k1 k2 (q p.1.tuple) p.1 _ _ _ w2 (hL 1 _ rfl) hx (fun w3 hw3 => hq p.1 (hmem p hp) w3 (fun b hb => (hw3 b (Nat.lt_of_lt_of_le hb (Nat.le_trans hs.1.1.size hsz))).trans (hag0 b hb)))) (by omega)).mono ?_)
 rintro e w2 ⟨B2, d2, rfl, hm⟩
 refine ⟨.one (.v (.slice B2 _ d2)), _, rfl, hm, ?_⟩
 clear hm hs hA hS hT hLn
 rw [rfilt_snd (q := fun r => q r.tuple) hrel]
 refine h_turn (A := [_, _]) (B := [rowA 64 kRw ((l.filter fun p => q p.1.tuple).map Prod.fst) (.slice B2 ((l.filter fun p => q p.1.tuple).map Prod.snd).length d2)]) (fun h S ho => ⟨S, fun _ => False, fun _ hb => hb, fun _ hb => hb.elim, fun _ _ hb => hb, rowA_holds.2 (join_row (hl := RC.len) (h1 := RC.one) rfl (by
  obtain ⟨S1, S2, s1, s2, sd, hrow, S3, S4, s3, s4, sd2, hh, _⟩ := ho
  exact ⟨S1, S2, s1, s2, sd, hrow, S3, S4, s3, s4, sd2, hang_sub List.filter_sublist hh, trivial⟩)), trivial⟩) ?_
 rw [hsl, hsp]
 refine gn 0 Rg.no [kCd (bitL 3 7)] [(4, vS B2 (List.map Prod.snd (List.filter (fun p => q p.fst.tuple) l)).length d2)] [] ?_
 refine rtk [vS B2 (List.map Prod.snd (List.filter (fun p => q p.fst.tuple) l)).length d2] ?_
 intro L w1 hs
 exact ⟨_, _, rfl, hs.out (As := [_])⟩
end Go.Proofs.YtgleoebogikooaaGreat.Dk
