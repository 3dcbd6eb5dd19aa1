/- Library: a checked symbolic machine over the model's code (part SxEv). No conditions: each theorem says its own. -/
import Derived.Test.YtjbbakckckihnaaSxExec
/-! Events: entering, returning, calls, loads from memory that is not the call's own list, operations told by hand. -/
namespace Go.Proofs.Ytjbbakckckihnaa.Sx
set_option linter.unusedVariables false
set_option linter.unusedSimpArgs false
open Go.RowKit
section
variable {C : Cx} {F : List HA} {K : List KI} {tm : List (Nat × SV)} {lb : List LB} {p : List Bool} {ops : Array Oper} {i : Nat}
def argsTm : Nat → List SV → List (Nat × SV)
  | _, [] => []
  | k, v :: r => (k, v) :: argsTm (k + 1) r
theorem lk_argsTm : ∀ {l : List SV} {k t : Nat} {v : SV}, lk (argsTm k l) t = some v → k ≤ t ∧ l[t - k]? = some v
  | [], _, _, _, h => by cases h
  | u :: r, k, t, v, h => by
    simp only [argsTm, lk] at h
    cases hb : Nat.beq k t with
    | true =>
      rw [hb] at h
      obtain rfl := Option.some.inj h
      rw [Nat.eq_of_beq_eq_true hb]
      simp
    | false =>
      rw [hb] at h
      obtain ⟨h1, h2⟩ := lk_argsTm (l := r) h
      refine ⟨by omega, ?_⟩
      rw [show t - k = (t - (k + 1)) + 1 by omega]
      simpa using h2
theorem enter {P : Program} {f : FuncId} {fn : Func} {c : Code} {args : List SV} {w : World} {R : Ending → World → Prop} {L0 : List Nat} {lb : List LB} (hf : P.funcs[f]? = some fn) (hb : fn.body = some c) (hn : Nat.ble args.length fn.ntmps = true)
    (hl : LOK L0 lb w.heap) (hF : ∃ S : Nat → Prop, (∀ b, S b → b < w.heap.size ∧ b ∉ L0) ∧ sepL F w.heap S) (h : Holds ⟨P, fn, c, R, w, L0⟩ F ⟨.no, [.code []], argsTm 0 args, lb⟩) : Calls P f (args.map (SV.val L0)).toArray w R := by
  refine calls_of_wp hf hb ?_
  have hn := Nat.le_of_ble_eq_true hn
  have ht : TOK fn.ntmps L0 (argsTm 0 args) { tmps := (args.map (SV.val L0)).toArray ++ Array.replicate (fn.ntmps - (args.map (SV.val L0)).toArray.size) undef, defers := [] } :=
    ⟨by simp; omega, rfl, fun t v hv => by
      obtain ⟨_, h2⟩ := lk_argsTm hv
      have hlt : t < args.length := (List.getElem?_eq_some_iff.1 h2).1
      rw [Array.getElem?_append_left (by simpa using hlt)]
      simp only [Nat.sub_zero] at h2
      simp [h2]⟩
  obtain ⟨d, hd, hw⟩ := h L0 w w _ ⟨⟨⟨rfl, rfl, rfl, Nat.le_refl _⟩, List.prefix_refl _⟩, hl, hF⟩ ht trivial
  obtain rfl := Option.some.inj hd
  exact hw
def bodyOf (fn : Func) : Code := fn.body.getD .skip
/-! ### Returning -/
def resV (P : Program) (tm : List (Nat × SV)) (lb : List LB) : ResultVar → Option SV
  | .tmp t => lk tm t
  | .cell a t => match lk tm a with
    | some (.one (.ptr h off)) => match lb[h]? with
      | some b => partL P t b.cells off
      | none => none
    | _ => none
def resL (P : Program) (tm : List (Nat × SV)) (lb : List LB) : List ResultVar → Option (List SV)
  | [] => some []
  | r :: l => match resV P tm lb r, resL P tm lb l with
    | some v, some vs => some (v :: vs)
    | _, _ => none
def retV : List Value → Value
  | [v] => v
  | vs => .tuple vs.toArray
def rvSem (tmps : Array Value) : ResultVar → Sem Value
  | .tmp t => pure (tmps.getD t undef)
  | .cell a t => do loadVar t (← asAddr (tmps.getD a undef))
theorem resV_run {P : Program} {N : Nat} {L : List Nat} {a : Act} {w : World} (ht : TOK N L tm a) (hl : LOK L lb w.heap) {r : ResultVar} {v : SV} (h : resV P tm lb r = some v) : (rvSem a.tmps r).run P w = .ok (v.val L) w := by
  cases r with
  | tmp t =>
    have := ht.2.2 t v h
    simp [rvSem, this]
  | cell q t =>
    simp only [resV] at h
    split at h
    · rename_i k off hq
      split at h
      · rename_i b hb
        have h1 := ht.2.2 q _ hq
        have h2 : a.tmps.getD q undef = .pointer (some ⟨L.getD k 0, off, none⟩) := by simp [h1, SV.val, SC.val]
        simp only [rvSem, h2, asAddr, Sem.run_bind, Sem.run_pure, Result.andThen_ok, partL_run h (cell_of_lb hl hb)]
      all_goals cases h
    all_goals cases h
theorem resL_run {P : Program} {N : Nat} {L : List Nat} {a : Act} {w : World} (ht : TOK N L tm a) (hl : LOK L lb w.heap) : ∀ {rs : List ResultVar} {vs : List SV}, resL P tm lb rs = some vs →
    (rs.mapM (rvSem a.tmps)).run P w = .ok (vs.map (SV.val L)) w
  | [], vs, h => by simp only [resL, Option.some.injEq] at h; subst h; simp
  | r :: rs, vs, h => by
    simp only [resL] at h
    split at h
    · rename_i v vs' hv hvs
      cases h
      rw [List.mapM_cons]
      simp only [Sem.run_bind, resV_run ht hl hv, Result.andThen_ok, resL_run ht hl hvs, Sem.run_pure, List.map_cons]
    · cases h
theorem results_run {P : Program} {fn : Func} {N : Nat} {L : List Nat} {a : Act} {w : World} (ht : TOK N L tm a) (hl : LOK L lb w.heap) {vs : List SV} (h : resL P tm lb fn.results.toList = some vs) :
    (results fn a.tmps).run P w = .ok (retV (vs.map (SV.val L))) w := by
  have e : results fn a.tmps = (do
      let vs ← fn.results.mapM (rvSem a.tmps)
      pure (if h : vs.size = 1 then vs[0] else .tuple vs)) := by
    unfold results
    congr 1
  rw [e, Array.mapM_eq_mapM_toList]
  simp only [Sem.run_bind, map_eq_pure_bind, resL_run ht hl h, Result.andThen_ok, Sem.run_pure]
  congr 1
  generalize vs.map (SV.val L) = l
  match l with
  | [] => rfl
  | [v] => rfl
  | _ :: _ :: _ => simp [retV]
def evRet (P : Program) (B : Code) (fn : Func) (st : St) : Option (List SV) :=
  match st.rg with
  | .no => match st.K with
    | [] => resL P st.tm st.lb fn.results.toList
    | .code p :: _ => match sub p B with
      | some .ret => resL P st.tm st.lb fn.results.toList
      | _ => none
    | _ => none
  | _ => none
theorem ret_ok {st : St} {vs : List SV} (he : evRet C.P C.B C.fn st = some vs) (h : ∀ L w, SOK C F st.lb L w → C.R (.returned (retV (vs.map (SV.val L)))) w) : Holds C F st := by
  intro L w1 w a hs ht hr
  obtain ⟨rg, K, tm, lb⟩ := st
  unfold evRet at he
  split at he
  · rename_i hrg
    simp only at hrg
    subst hrg
    split at he
    · rename_i hK
      simp only at hK
      subst hK
      exact ⟨ht.2.1, _, results_run ht hs.2.1 he, h L w hs⟩
    · rename_i p K' hK
      simp only at hK
      subst hK
      split at he
      · rename_i hc
        refine ⟨_, hc, wp_ret ?_⟩
        rw [runK_ret]
        exact ⟨ht.2.1, _, results_run ht hs.2.1 he, h L w hs⟩
      · cases he
    · cases he
  · cases he
/-! ### What is known may be told less, or in other words -/
theorem h_conseq {st : St} (h : ∀ L w, SOK C F st.lb L w → ∃ F', SOK C F' st.lb L w ∧ Holds C F' st) : Holds C F st := fun L w1 w a hs ht hr => by
  obtain ⟨F', hs', h'⟩ := h L w hs
  exact h' L w1 w a hs' ht hr
def keepTm (tm : List (Nat × SV)) (ks : List Nat) : List (Nat × SV) := tm.filter fun x => ks.any (Nat.beq x.1)
theorem lk_filter {q : Nat → Bool} {t : Nat} {v : SV} : ∀ {tm : List (Nat × SV)}, lk (tm.filter fun x => q x.1) t = some v → lk tm t = some v
  | [], h => by cases h
  | (s, u) :: r, h => by
    simp only [List.filter_cons] at h
    simp only [lk]
    cases hst : Nat.beq s t with
    | true =>
      have hs := Nat.eq_of_beq_eq_true hst
      subst hs
      split at h
      · simp only [lk, hst] at h; exact h
      · rename_i hq
        exfalso
        have := lk_mem h
        simp only [List.mem_filter] at this
        exact hq this.2
    | false =>
      split at h
      · simp only [lk, hst] at h; exact lk_filter h
      · exact lk_filter h
theorem h_keep {rg : Rg} (ks : List Nat) (h : Holds C F ⟨rg, K, keepTm tm ks, lb⟩) : Holds C F ⟨rg, K, tm, lb⟩ := fun L w1 w a hs ht hr =>
  h L w1 w a hs (ht.weaken fun t v hv => lk_filter (q := fun k => ks.any (Nat.beq k)) hv) hr
theorem h_split {rg : Rg} {t : Nat} {b : Bool} (hl : lk tm t = some (.one (.bo b))) (hN : Nat.blt t C.fn.ntmps = true) (h1 : b = true → Holds C F ⟨rg, K, pt tm t (.one (.v (.bool true))), lb⟩)
    (h2 : b = false → Holds C F ⟨rg, K, pt tm t (.one (.v (.bool false))), lb⟩) : Holds C F ⟨rg, K, tm, lb⟩ := fun L w1 w a hs ht hr => by
  have key : TOK C.fn.ntmps L (pt tm t (.one (.v (.bool b)))) a := by
    refine ⟨ht.1, ht.2.1, fun s v hv => ?_⟩
    rcases lk_pt hv with ⟨rfl, rfl⟩ | ⟨_, hv⟩
    · exact (ht.2.2 s (.one (.bo b)) hl).trans rfl
    · exact ht.2.2 _ _ hv
  cases b with
  | true => exact h1 rfl L w1 w a hs key hr
  | false => exact h2 rfl L w1 w a hs key hr
end
end Go.Proofs.Ytjbbakckckihnaa.Sx
