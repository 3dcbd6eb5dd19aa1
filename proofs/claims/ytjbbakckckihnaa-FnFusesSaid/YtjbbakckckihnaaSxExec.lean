/- Library: a checked symbolic machine over the model's code (part SxExec). No conditions: each theorem says its own. -/
import Derived.Test.YtjbbakckckihnaaSxStep
/-! From state to state, as far as no event comes. -/
namespace Go.Proofs.Ytjbbakckckihnaa.Sx
set_option linter.unusedVariables false
set_option linter.unusedSimpArgs false
open Go.RowKit
section
variable {C : Cx} {F : List HA} {K : List KI} {tm : List (Nat × SV)} {lb : List LB} {p : List Bool} {ops : Array Oper} {i : Nat}
def rdyB (ops : Array Oper) (l : List Bool) (i : Nat) : Bool :=
  !(l.getD i true) && match ops[i]? with
    | some o => o.after.toList.all fun e => !(Region.binds .any e) || l.getD e.on false
    | none => false
theorem rdyB_mem {l : List Bool} (h : rdyB ops l i = true) : i ∈ Region.ready .any ops l.toArray := by
  obtain ⟨h1, h2⟩ : (!(l.getD i true)) = true ∧ (match ops[i]? with
    | some o => o.after.toList.all fun e => !(Region.binds .any e) || l.getD e.on false
    | none => false) = true := by simpa only [rdyB, Bool.and_eq_true] using h
  refine mem_ready.2 ⟨by simpa [List.getD_eq_getElem?_getD] using h1, ?_⟩
  cases ho : ops[i]? with
  | none => rw [ho] at h2; cases h2
  | some o =>
    rw [ho] at h2
    refine ⟨o, rfl, fun e he hb => ?_⟩
    have h3 := List.all_eq_true.1 h2 e (by simpa using he)
    rw [hb] at h3
    simpa [List.getD_eq_getElem?_getD] using h3
/-- An operation that yields its value, if number i is one. -/
def pureAt (P : Program) (N : Nat) (ops : Array Oper) (tm : List (Nat × SV)) (lb : List LB) (m2 : Bool) (i : Nat) : Option (List (Nat × SV)) :=
  match ops[i]? with
  | none => none
  | some o => match want ops tm o with
    | none => none
    | some false => some (undO N tm o.dst)
    | some true => match evalAny P tm lb m2 o with
      | some v => putO N tm o.dst v
      | none => none
def isTwo : Nat → Bool
  | 2 => true
  | _ => false
theorem isTwo_eq {m : Nat} (h : isTwo m = true) : m = 2 := by
  unfold isTwo at h
  split at h
  · rfl
  · cases h
theorem dr_pure {id f m : Nat} {l : List Bool} {tm' : List (Nat × SV)} (hc : sub p C.B = some (.region id ops true)) (hsel : Region.noSelect ops = true) (hr : rdyB ops l i = true) (hcl : closedB ops l = true)
    (hf : Region.free .any ops l.toArray i = true) (hp : pureAt C.P C.fn.ntmps ops tm lb (isTwo m) i = some tm') (h : Holds C F ⟨.dr p (l.set i true) f m, K, tm', lb⟩) : Holds C F ⟨.dr p l (f + 1) m, K, tm, lb⟩ := by
  intro L w1 w a hs ht hreg
  refine ⟨id, ops, hc, ?_⟩
  unfold pureAt at hp
  split at hp
  · cases hp
  · rename_i o hi
    have go : ∀ (rd : Bool) (v : Value), (rd = true → isLoad ops i = true) → TOK C.fn.ntmps L tm' (a.put o.dst v) → YieldsIf C.P ops (fun w => rd = true → keepAll w1 w) o v a → (rd = true → keepAll w1 w) →
        wpS C.P ops (runK C K) (keepAll w1) (nsB ops) (f + 1) l.toArray a w := fun rd v hld ht' hy hS => by
      refine wpS_first (rd := rd) hi hsel (fun c a w => runK_put) (fun hr1 j _ _ hn hne => nsB_spec (hld hr1) hn hne) f l.toArray a w (Region.free_spec hi hf) (rdyB_mem hr) (closedB_spec hcl) hy hS ?_
      obtain ⟨id', ops', hc', hw⟩ := h L w1 w (a.put o.dst v) hs ht' hreg
      rw [hc] at hc'
      cases hc'
      rw [List.setIfInBounds_toArray]
      exact hw
    split at hp
    · cases hp
    · rename_i hw
      cases hp
      exact go false undef (fun h => by cases h) (undO_run ht _) (.inr ⟨want_run ht hw, rfl⟩) (fun h => by cases h)
    · rename_i hw
      split at hp
      · rename_i v hv
        cases he : evalP C.P tm o with
        | some u =>
          have huv : u = v := by rw [evalAny, he] at hv; exact Option.some.inj hv
          subst huv
          exact go false (u.val L) (fun h => by cases h) (putO_run ht hp) (.inl ⟨want_run ht hw, fun w' _ => evalP_run ht he w'⟩) (fun h => by cases h)
        | none =>
          rw [evalAny, he] at hv
          cases hm : isTwo m with
          | false => rw [hm] at hv; cases hv
          | true =>
            rw [hm] at hv
            have hm2 := isTwo_eq hm
            have hv : evalL C.P tm lb o = some v := hv
            have heq := hreg.1 hm2
            have hk := hreg.2 (by omega)
            have hld : isLoad ops i = true := by
              obtain ⟨t, x, ho⟩ := evalL_load hv
              unfold isLoad
              rw [hi]
              simp only [ho]
            refine go true (v.val L) (fun _ => hld) (putO_run ht hp) (.inl ⟨want_run ht hw, fun w' hw' => evalL_run ht hv ?_⟩) (fun _ => hk)
            obtain ⟨h1, h2, h3⟩ := hs.2.1
            refine ⟨h1, h2, fun k b hb => ?_⟩
            have h4 := h3 k b hb
            rw [hw' rfl _ (by rw [← heq]; exact (Array.getElem?_eq_some_iff.1 h4).1), ← heq]
            exact h4
      · cases hp
def pickD (P : Program) (N : Nat) (ops : Array Oper) (tm : List (Nat × SV)) (lb : List LB) (l : List Bool) (m2 : Bool) : List Nat → Option (Nat × List (Nat × SV))
  | [] => none
  | i :: r => bif rdyB ops l i then
      match pureAt P N ops tm lb m2 i with
      | some tm' => bif Region.free .any ops l.toArray i then some (i, tm') else pickD P N ops tm lb l m2 r
      | none => pickD P N ops tm lb l m2 r
    else pickD P N ops tm lb l m2 r
theorem pickD_spec {P : Program} {N : Nat} {l : List Bool} {m2 : Bool} {tm' : List (Nat × SV)} : ∀ {r : List Nat}, pickD P N ops tm lb l m2 r = some (i, tm') →
    rdyB ops l i = true ∧ Region.free .any ops l.toArray i = true ∧ pureAt P N ops tm lb m2 i = some tm'
  | [], h => by cases h
  | j :: r, h => by
    simp only [pickD] at h
    cases hr : rdyB ops l j with
    | false => rw [hr] at h; exact pickD_spec h
    | true =>
      rw [hr] at h
      simp only [cond_true] at h
      split at h
      · rename_i t hp
        cases hf : Region.free .any ops l.toArray j with
        | false => rw [hf] at h; exact pickD_spec h
        | true => rw [hf] at h; cases h; exact ⟨hr, hf, hp⟩
      · exact pickD_spec h
def step (P : Program) (B : Code) (N : Nat) (st : St) : Option St :=
  match st.rg with
  | .no => match st.K with
    | [] => none
    | .block _ :: K => some ⟨.no, K, st.tm, st.lb⟩
    | .loop _ :: _ => none
    | .code p :: K => match sub p B with
      | some .skip => some ⟨.no, K, st.tm, st.lb⟩
      | some (.label _) => some ⟨.no, K, st.tm, st.lb⟩
      | some (.seq _ _) => some ⟨.no, .code (p ++ [false]) :: .code (p ++ [true]) :: K, st.tm, st.lb⟩
      | some (.block id _) => some ⟨.no, .code (p ++ [true]) :: .block id :: K, st.tm, st.lb⟩
      | some (.loop _) => some ⟨.no, .loop (p ++ [true]) :: K, st.tm, st.lb⟩
      | some (.exit id) => match exitK id K with
        | some K' => some ⟨.no, K', st.tm, st.lb⟩
        | none => none
      | some (.cond c _ _) => match opv st.tm c with
        | some (.one (.v (.bool b))) => some ⟨.no, .code (p ++ [match b with | true => false | false => true]) :: K, st.tm, st.lb⟩
        | _ => none
      | some (.region _ _ false) => some ⟨.sq p 0, K, st.tm, st.lb⟩
      | some (.region _ ops true) => some ⟨.dr p (List.replicate ops.size false) ops.size 2, K, st.tm, st.lb⟩
      | _ => none
  | .sq p i => match sub p B with
    | some (.region _ ops false) => bif Nat.blt i ops.size then
        match opStep P N ops st.tm st.lb i with
        | some (tm', lb', _) => some ⟨.sq p (i + 1), st.K, tm', lb'⟩
        | none => none
      else some ⟨.no, st.K, st.tm, st.lb⟩
    | _ => none
  | .dr p l f m => match sub p B with
    | some (.region _ ops true) => match f with
      | 0 => match Region.ready .any ops l.toArray with
        | [] => some ⟨.no, st.K, st.tm, st.lb⟩
        | _ => none
      | f + 1 => bif Region.noSelect ops && closedB ops l then
          match pickD P N ops st.tm st.lb l (isTwo m) (List.range ops.size) with
          | some (i, tm') => some ⟨.dr p (l.set i true) f m, st.K, tm', st.lb⟩
          | none => match Region.ready .any ops l.toArray with
            | [] => some ⟨.no, st.K, st.tm, st.lb⟩
            | [i] => match opStep P N ops st.tm st.lb i with
              | some (tm', lb', k) => bif !(nsB ops i) || k then some ⟨.dr p (l.set i true) f (modeOf k m), st.K, tm', lb'⟩ else none
              | none => none
            | _ => none
        else none
    | _ => none
  | .fx _ _ _ _ _ => none
theorem step_ok {st st' : St} (hm : C.P.follows .mixedOrders = true) (hs : step C.P C.B C.fn.ntmps st = some st') (h : Holds C F st') : Holds C F st := by
  obtain ⟨rg, K, tm, lb⟩ := st
  unfold step at hs
  cases rg with
  | fx p l f m i => cases hs
  | no =>
    simp only at hs
    split at hs
    · cases hs
    · cases hs; exact h_blockEnd h
    · cases hs
    · split at hs
      · cases hs; exact h_skip ‹_› h
      · cases hs; exact h_label ‹_› h
      · cases hs; exact h_seq ‹_› h
      · cases hs; exact h_block ‹_› h
      · cases hs; exact h_loop ‹_› h
      · split at hs
        · cases hs; exact h_exit ‹_› ‹_› h
        · cases hs
      · split at hs
        · rename_i b hb
          cases hs
          refine h_cond ‹_› hb ?_
          cases b <;> exact h
        · cases hs
      · cases hs; exact h_region ‹_› h
      · cases hs; exact h_draw hm ‹_› h
      · cases hs
  | sq p i =>
    simp only at hs
    split at hs
    · rename_i ops hc
      cases hb : Nat.blt i ops.size with
      | true =>
        rw [hb] at hs
        simp only [cond_true] at hs
        split at hs
        · rename_i tm' lb' k ho
          cases hs
          refine sq_go hc (by simpa [Nat.blt_eq] using hb) ((opStep_goes ho).mono id (fun F' l t ⟨h1, h2, h3⟩ => ?_))
          rw [h1, h2, h3]
          exact h
        · cases hs
      | false =>
        rw [hb] at hs
        cases hs
        refine h_regionEnd hc ?_ h
        have : ¬ i < ops.size := fun hlt => by rw [← Nat.blt_eq] at hlt; rw [hlt] at hb; cases hb
        exact Array.getElem?_eq_none (by omega)
    · cases hs
  | dr p l f m =>
    simp only at hs
    split at hs
    · rename_i ops hc
      split at hs
      · split at hs
        · rename_i hr; cases hs; exact h_drawEnd hc hr h
        · cases hs
      · cases hsel0 : (Region.noSelect ops && closedB ops l) with
        | false => rw [hsel0] at hs; cases hs
        | true =>
          rw [hsel0] at hs
          simp only [cond_true] at hs
          obtain ⟨hsel, hcl⟩ : Region.noSelect ops = true ∧ closedB ops l = true := by simpa only [Bool.and_eq_true] using hsel0
          split at hs
          · rename_i i tm' hp
            cases hs
            obtain ⟨h1, h2, h3⟩ := pickD_spec hp
            exact dr_pure hc hsel h1 hcl h2 h3 h
          · split at hs
            · rename_i hr; cases hs; exact h_drawEnd hc hr h
            · rename_i i hr
              split at hs
              · rename_i tm' lb' k ho
                cases hk : (!(nsB ops i) || k) with
                | false => rw [hk] at hs; cases hs
                | true =>
                  rw [hk] at hs
                  cases hs
                  refine dr_go hc hr (fun hn => by rw [hn] at hk; exact hk) ((opStep_goes ho).mono id (fun F' l t ⟨h1, h2, h3⟩ => ?_))
                  rw [h1, h2, h3]
                  exact h
              · cases hs
            · cases hs
    · cases hs
def exec (P : Program) (B : Code) (N : Nat) : Nat → St → St
  | 0, st => st
  | n + 1, st => match step P B N st with
    | some st' => exec P B N n st'
    | none => st
theorem exec_ok (hm : C.P.follows .mixedOrders = true) : ∀ (n : Nat) {st : St}, Holds C F (exec C.P C.B C.fn.ntmps n st) → Holds C F st
  | 0, _, h => h
  | n + 1, st, h => by
    simp only [exec] at h
    split at h
    · exact step_ok hm ‹_› (exec_ok hm n h)
    · exact h
end
end Go.Proofs.Ytjbbakckckihnaa.Sx
