/- Library: a checked symbolic machine over the model's code (part SxMove). No conditions: each theorem says its own. -/
import Derived.Test.YtjbbakckckihnaaSxRows
/-! Moves over rows. -/
namespace Go.Proofs.Ytjbbakckckihnaa.Sx
set_option linter.unusedVariables false
set_option linter.unusedSimpArgs false
open Go.RowKit
section
variable {C : Cx} {F : List HA}
theorem h_forget {rg : Rg} {K : List KI} {tm : List (Nat × SV)} {lb : List LB} (n : Nat) (hw : wfAll n tm (lb.take n) = true) (hn : Nat.ble C.L0.length n = true) (h : Holds C F ⟨rg, K, tm, lb.take n⟩) : Holds C F ⟨rg, K, tm, lb⟩ := by
  intro L w1 w a hs ht hr
  have hn := Nat.le_of_ble_eq_true hn
  obtain ⟨h3, h4⟩ : tm.all (fun p => p.2.wf n) = true ∧ (lb.take n).all (fun b => b.cells.all (SC.wf n)) = true := by simpa only [wfAll, Bool.and_eq_true] using hw
  rcases Nat.lt_or_ge n L.length with hlt | hge
  · have hL : L.take n ++ L.drop n = L := List.take_append_drop n L
    have hlen : (L.take n).length = n := by simp; omega
    obtain ⟨⟨henv, M, hM⟩, ⟨l1, l2, l3⟩, S, hS, hF⟩ := hs
    refine h (L.take n) w1 w a ⟨⟨henv, ⟨M.take (n - C.L0.length), ?_⟩⟩, ⟨by rw [List.length_take, List.length_take, l1], ?_, fun i b hb => ?_⟩, S, fun b hb => ⟨(hS b hb).1, fun hm => (hS b hb).2 (List.mem_of_mem_take hm)⟩, hF⟩ ⟨ht.1, ht.2.1, fun t v hv => ?_⟩ hr
    · rw [← hM, List.take_append, List.take_of_length_le hn]
    · exact l2.sublist (List.take_sublist n L)
    · have hi : i < n := by
        have := (List.getElem?_eq_some_iff.1 hb).1
        rw [List.length_take] at this
        omega
      have hb2 := List.all_eq_true.1 h4 b (List.mem_of_getElem? hb)
      rw [List.getElem?_take_of_lt hi] at hb
      have h5 := l3 i b hb
      have e1 : L.getD i 0 = (L.take n).getD i 0 := by
        rw [List.getD_eq_getElem?_getD, List.getD_eq_getElem?_getD, List.getElem?_take_of_lt hi]
      have e2 : b.cells.map (SC.val L) = b.cells.map (SC.val (L.take n)) := List.map_congr_left fun c hc => by
        rw [← SC.val_app (L := L.take n) (M := L.drop n) (by rw [hlen]; exact List.all_eq_true.1 hb2 c hc), hL]
      rw [← e1, ← e2]
      exact h5
    · rw [← SV.val_app (L := L.take n) (M := L.drop n) (by rw [hlen]; exact List.all_eq_true.1 h3 _ (lk_mem hv)), hL]
      exact ht.2.2 t v hv
  · have e1 : lb.take n = lb := List.take_of_length_le (by rw [hs.2.1.1]; exact hge)
    rw [e1] at h
    exact h L w1 w a hs ht hr
def selTm (tm : List (Nat × SV)) : List Nat → List (Nat × SV)
  | [] => []
  | k :: r => match lk tm k with
    | some v => (k, v) :: selTm tm r
    | none => selTm tm r
theorem lk_sel {tm : List (Nat × SV)} {t : Nat} {v : SV} : ∀ {ks : List Nat}, lk (selTm tm ks) t = some v → lk tm t = some v
  | [], h => by cases h
  | k :: r, h => by
    simp only [selTm] at h
    split at h
    · rename_i u hu
      simp only [lk] at h
      cases hb : Nat.beq k t with
      | true =>
        rw [hb] at h
        obtain rfl := Option.some.inj h
        rw [← Nat.eq_of_beq_eq_true hb]
        exact hu
      | false => rw [hb] at h; exact lk_sel h
    · exact lk_sel h
def trim2 (ks : List Nat) (n : Nat) (st : St) : St := ⟨st.rg, st.K, selTm st.tm ks, st.lb.take n⟩
/-- On to the next event: what is read no more is left out. -/
theorem go (hm : C.P.follows .mixedOrders = true) (n : Nat) (ks : List Nat) (nl : Nat) {st : St} (st' : St) (he : trim2 ks nl (exec C.P C.B C.fn.ntmps n st) = st') (hw : wfAll nl st'.tm st'.lb = true) (hn : Nat.ble C.L0.length nl = true) (h : Holds C F st') : Holds C F st := by
  subst he
  refine exec_ok hm n ?_
  have h1 := h_forget (lb := (exec C.P C.B C.fn.ntmps n st).lb) nl hw hn h
  exact fun L w1 w a hs ht hr => h1 L w1 w a hs (ht.weaken fun t v hv => lk_sel hv) hr
def updTm (u : List (Nat × SV)) : List (Nat × SV) → List (Nat × SV)
  | [] => []
  | (t, v) :: r => (t, (lk u t).getD v) :: updTm u r
def lkB : List (Nat × LB) → Nat → Option LB
  | [], _ => none
  | (t, v) :: r, k => bif Nat.beq t k then some v else lkB r k
def updLb (u : List (Nat × LB)) : Nat → List LB → List LB
  | _, [] => []
  | k, b :: r => (lkB u k).getD b :: updLb u (k + 1) r
/-- A loop: what is so at each round's head, told of the registers and blocks that turn. -/
theorem loop_at {ι : Type} {p : List Bool} {K : List KI} {tm : List (Nat × SV)} {lb : List LB} {F0 : List HA} (u : ι → List (Nat × SV)) (ul : ι → List (Nat × LB)) (F : ι → List HA) (I : ι → Prop) (μ : ι → Nat) (i0 : ι) (hu : updTm (u i0) tm = tm) (hul : updLb (ul i0) 0 lb = lb) (hF : F i0 = F0) (hI : I i0)
    (h : ∀ i, I i → (∀ j, I j → μ j < μ i → Holds C (F j) ⟨.no, .loop p :: K, updTm (u j) tm, updLb (ul j) 0 lb⟩) → Holds C (F i) ⟨.no, .code p :: .loop p :: K, updTm (u i) tm, updLb (ul i) 0 lb⟩) : Holds C F0 ⟨.no, .loop p :: K, tm, lb⟩ := by
  have key : ∀ n i, μ i = n → I i → Holds C (F i) ⟨.no, .loop p :: K, updTm (u i) tm, updLb (ul i) 0 lb⟩ := by
    intro n
    induction n using Nat.strongRecOn with
    | _ n ih =>
      intro i hn hi
      exact round_at (h i hi fun j hj hlt => ih (μ j) (hn ▸ hlt) j rfl hj)
  have := key _ i0 rfl hI
  rw [hu, hul, hF] at this
  exact this
/-- The type of a row: its elements' type, their cells, their bytes. -/
def rowTy (P : Program) (t : Nat) : Option (Nat × Nat × Nat) :=
  match P.underlying t with
  | some (.slice e) => match P.info? e with
    | some i => match i.zero with
      | some z => bif Nat.beq z.cells.size i.size && Nat.blt 0 i.size then some (e, i.size, i.bytes) else none
      | none => none
    | none => none
  | _ => none
theorem rowTy_spec {P : Program} {t e sz by_ : Nat} (h : rowTy P t = some (e, sz, by_)) : ∃ i z, P.underlying t = some (.slice e) ∧ P.info? e = some i ∧ i.zero = some z ∧ i.size = sz ∧ z.cells.size = sz ∧ i.bytes = by_ ∧ 0 < sz := by
  unfold rowTy at h
  split at h
  · rename_i e' hu
    split at h
    · rename_i i hi
      split at h
      · rename_i z hz
        obtain ⟨h1, h2⟩ := bif_some h
        cases h2
        obtain ⟨h3, h4⟩ : Nat.beq z.cells.size i.size = true ∧ Nat.blt 0 i.size = true := by simpa only [Bool.and_eq_true] using h1
        exact ⟨i, z, hu, hi, hz, rfl, Nat.eq_of_beq_eq_true h3, rfl, by simpa [Nat.blt_eq] using h4⟩
      · cases h
    · cases h
  · cases h
theorem exec_append {P : Program} {ρ : Operand → Value} {s x : Operand} {t u ty : Nat} {w w' : World} {v : Value} (hr : (Builtin.append_ #[t, u] ty #[ρ s, ρ x]).run P w = .ok v w') :
    (execOp ρ (opOf (.call { callee := .builtin .append, args := #[s, x], argTypes := #[t, u] }) ty)).run P w = .ok (.value v) w' := by
  simp only [opOf, execOp, resolve, invoke, builtin, Sem.run_bind, Sem.run_pure, Result.andThen_ok, List.map_toArray, List.map_cons, List.map_nil, hr]
theorem opL_tmp {L : List Nat} {tm : List (Nat × SV)} {t : Nat} {v : SV} (h : lk tm t = some v) : opL L tm (.tmp t) = v.val L := by
  simp only [opL, opv, h]
theorem lk_upd {st : St} {rg : Rg} {K : List KI} : (⟨rg, K, st.tm, st.lb⟩ : St).tm = st.tm := rfl
theorem append_grown {α : Type} {d : Kn α} {xs ys : List α} {A : List HA} {v : Value} {e : Nat} {lb : List LB} {L : List Nat} {w : World} {P : Program} {t ty by_ : Nat} {a : Addr} {c : Nat} {news : List Value}
    (hs : SOK C ((rowA e d xs v :: A) ++ F) lb L w) (hT : rowTy P t = some (e, d.sz, by_)) (hl : news.length = ys.length * d.sz) (hnews : ∀ j u, news[j]? = some u → w.cell? (a.add j) = some u) (h1 : ∀ u ∈ news, u.oneCell' = true)
    (hys : ∀ S : Nat → Prop, sepL A w.heap S → els d w.heap S ys (fun k => news[k]?)) (h63 : xs.length + ys.length ≤ maxLen) (hbytes : (xs.length + ys.length) * by_ ≤ 140737488355328) :
    ∃ (B : Option Addr) (n : Nat) (w' : World), (Builtin.append_ #[t, t] ty #[v, .slice (some a) ys.length c]).run P w = .ok (.slice B (xs ++ ys).length n) w' ∧ SOK C (rowA e d (xs ++ ys) (.slice B (xs ++ ys).length n) :: F) lb L w' := by
  obtain ⟨i, z, hu, hi, hz, hsz, hzs, hby, h0⟩ := rowTy_spec hT
  obtain ⟨S, ⟨S1, S2, a1, a2, a3, hrow, hA⟩, hS, hmut⟩ := hs.mut
  obtain ⟨v', w', hr, hg, ho⟩ := append_run (P := P) (t := t) (ty := ty) hu hi hz hsz hzs h0 (rowA_holds.1 hrow) (fun b hb => (hS b (a1 b hb)).1) (fun b hb => (hS b (a2 b hb)).1) a3 a c news hl hnews h1 (hys S2 hA) h63 (by rw [hby]; exact hbytes)
  obtain ⟨B, n, hv', _⟩ := id ho
  subst hv'
  refine ⟨B, n, w', hr, ?_⟩
  refine hmut w' [rowA e d (xs ++ ys) _] hg.os hg.tape hg.output hg.size (fun b hb hn => hg.keep b hb (fun h => hn (a1 b h))) ?_
  refine ⟨_, fun _ => False, fun b hb => hb.imp (fun h => h.elim (a1 b) (a2 b)) id, fun _ h => h.elim, fun _ _ h => h, rowA_holds.2 ho, trivial⟩
/-- One element, told as a literal of the call's own, is put behind a row. -/
theorem append_lit {α : Type} {d : Kn α} {xs : List α} {y : α} {v : Value} {news : List Value} {st : St} {ts tx t ty e by_ hh : Nat} {dst : Option Tmp} {rg' : Rg} {cells : List SC} {e' : Nat}
    (he : atB C.B C.fn.ntmps st false = some (.call { callee := .builtin .append, args := #[.tmp ts, .tmp tx], argTypes := #[t, t] }, ty, dst, rg')) (hT : rowTy C.P t = some (e, d.sz, by_))
    (hv : lk st.tm ts = some (.one (.v v))) (hx : lk st.tm tx = some (.one (.sl hh 0 1 1))) (hb : st.lb[hh]? = some ⟨cells, e'⟩) (hc : cellsV cells = some news)
    (h63 : xs.length + 1 ≤ maxLen) (hbytes : (xs.length + 1) * by_ ≤ 140737488355328)
    (h : ∀ A c, Holds C (rowA e d (xs ++ [y]) (.slice A (xs ++ [y]).length c) :: F) ⟨rg', st.K, ptO st.tm dst (.one (.v (.slice A (xs ++ [y]).length c))), st.lb⟩) : Holds C (rowA e d xs v :: elA d y news :: F) st := by
  refine prim_at false he (fun L w hs => ?_)
  have hcell : ∀ j u, news[j]? = some u → w.cell? ((⟨L.getD hh 0, 0, none⟩ : Addr).add j) = some u := fun j u hu => by
    rw [add_at, cell_of_lb hs.2.1 hb, Nat.zero_add]
    have := cellsV_val hc L
    rw [← List.getElem?_map, this]
    exact hu
  obtain ⟨S0, _, hel⟩ := hs.at_ 1 rfl
  have hone := d.one (d.read hel)
  have hlen := d.len (d.read hel)
  obtain ⟨B, n, w', hr, hs'⟩ := append_grown (ys := [y]) (A := [elA d y news]) (ty := ty) (c := 1) hs hT (by simpa using hlen) hcell hone
    (fun S hA => by
      obtain ⟨S1, S2, b1, _, _, hA, _⟩ := hA
      exact els_mono b1 (els_one hA fun j u hu => hu)) h63 hbytes
  refine ⟨.one (.v (.slice B (xs ++ [y]).length n)), _, st.lb, w', exec_append ?_, fun hk => by (cases hk), hs', h B n⟩
  rw [opL_tmp hv, opL_tmp hx]
  exact hr
end
end Go.Proofs.Ytjbbakckckihnaa.Sx
