/- Library: a checked symbolic machine over the model's code (part SxStep). No conditions: each theorem says its own. -/
import Derived.Test.YtjbbakckckihnaaSxRun
/-! Operations of a region, one at a time. -/
namespace Go.Proofs.Ytjbbakckckihnaa.Sx
set_option linter.unusedVariables false
set_option linter.unusedSimpArgs false
open Go.RowKit
section
variable {C : Cx} {F : List HA} {K : List KI} {tm : List (Nat × SV)} {lb : List LB} {p : List Bool} {ops : Array Oper} {i : Nat}
/-- Operation i leads from what is known to what 'Next' takes. -/
def GoesTo (C : Cx) (ops : Array Oper) (K : List KI) (i : Nat) (F : List HA) (lb : List LB) (tm : List (Nat × SV)) (k : Bool) (Next : List HA → List LB → List (Nat × SV) → Prop) : Prop :=
  ∀ (L : List Nat) (w : World) (a : Act), SOK C F lb L w → TOK C.fn.ntmps L tm a →
    wpOp C.P ops (runK C K) i (fun a' w' => (∃ F' lb' tm' L', Next F' lb' tm' ∧ SOK C F' lb' L' w' ∧ TOK C.fn.ntmps L' tm' a') ∧
      (k = true → ∀ b, b < w.heap.size → w'.heap[b]? = w.heap[b]?)) a w
theorem GoesTo.mono {k k' : Bool} {N N' : List HA → List LB → List (Nat × SV) → Prop} (h : GoesTo C ops K i F lb tm k N) (hk : k' = true → k = true) (hN : ∀ F' lb' tm', N F' lb' tm' → N' F' lb' tm') :
    GoesTo C ops K i F lb tm k' N' := fun L w a hs ht =>
  wpOp_mono (fun a' w' ⟨⟨F', lb', tm', L', h1, h2⟩, h3⟩ => ⟨⟨F', lb', tm', L', hN _ _ _ h1, h2⟩, fun hk' => h3 (hk hk')⟩) (h L w a hs ht)
theorem sq_go {id : Nat} {k : Bool} (hc : sub p C.B = some (.region id ops false)) (hi : i < ops.size)
    (h : GoesTo C ops K i F lb tm k (fun F' lb' tm' => Holds C F' ⟨.sq p (i + 1), K, tm', lb'⟩)) : Holds C F ⟨.sq p i, K, tm, lb⟩ := by
  intro L w1 w a hs ht hr
  refine ⟨id, ops, hc, ?_⟩
  rw [show ops.size - i = (ops.size - (i + 1)) + 1 by omega, List.range'_succ, wpOps_cons]
  refine wpOp_mono (fun a' w' ⟨⟨F', lb', tm', L', h1, h2, h3⟩, _⟩ => ?_) (h L w a hs ht)
  obtain ⟨id', ops', hc', hw⟩ := h1 L' w1 w' a' h2 h3 trivial
  rw [hc] at hc'
  cases hc'
  exact hw
def modeOf (k : Bool) (m : Nat) : Nat := bif k then (match m with | 0 => 0 | _ => 1) else 0
theorem dr_go {id f m : Nat} {k : Bool} {l : List Bool} (hc : sub p C.B = some (.region id ops true)) (hr : Region.ready .any ops l.toArray = [i]) (hk : nsB ops i = true → k = true)
    (h : GoesTo C ops K i F lb tm k (fun F' lb' tm' => Holds C F' ⟨.dr p (l.set i true) f (modeOf k m), K, tm', lb'⟩)) : Holds C F ⟨.dr p l (f + 1) m, K, tm, lb⟩ := by
  intro L w1 w a hs ht hreg
  refine ⟨id, ops, hc, wpS_one hr ?_⟩
  refine wpOp_mono (fun a' w' ⟨⟨F', lb', tm', L', h1, h2, h3⟩, h4⟩ => ?_) (h L w a hs ht)
  have hkeep : k = true → keepAll w1 w → keepAll w1 w' := fun hk1 hw b hb => by
    have h5 := hw b hb
    have h6 : b < w.heap.size := (Array.getElem?_eq_some_iff.1 (h5.trans (Array.getElem?_eq_getElem hb))).1
    exact (h4 hk1 b h6).trans h5
  refine ⟨fun hn => hkeep (hk hn), ?_⟩
  obtain ⟨id', ops', hc', hw⟩ := h1 L' w1 w' a' h2 h3 (by
    cases k with
    | false => exact ⟨fun h => (by cases h), fun h => absurd h (show ¬ 1 ≤ 0 by decide)⟩
    | true =>
      match m with
      | 0 => exact ⟨fun h => (by cases h), fun h => absurd h (show ¬ 1 ≤ 0 by decide)⟩
      | m + 1 => exact ⟨fun h => (by cases h), fun _ => hkeep rfl (hreg.2 (by omega))⟩)
  rw [hc] at hc'
  cases hc'
  rw [List.setIfInBounds_toArray]
  exact hw
theorem fx_go {id f m : Nat} {k : Bool} {l : List Bool} (hc : sub p C.B = some (.region id ops true)) (hk : nsB ops i = true → k = true)
    (h : GoesTo C ops K i F lb tm k (fun F' lb' tm' => Holds C F' ⟨.dr p (l.set i true) f (modeOf k m), K, tm', lb'⟩)) : Holds C F ⟨.fx p l f m i, K, tm, lb⟩ := by
  intro L w1 w a hs ht hreg
  refine ⟨id, ops, hc, ?_⟩
  refine wpOp_mono (fun a' w' ⟨⟨F', lb', tm', L', h1, h2, h3⟩, h4⟩ => ?_) (h L w a hs ht)
  have hkeep : k = true → keepAll w1 w → keepAll w1 w' := fun hk1 hw b hb => by
    have h5 := hw b hb
    have h6 : b < w.heap.size := (Array.getElem?_eq_some_iff.1 (h5.trans (Array.getElem?_eq_getElem hb))).1
    exact (h4 hk1 b h6).trans h5
  refine ⟨fun hn => hkeep (hk hn), ?_⟩
  obtain ⟨id', ops', hc', hw⟩ := h1 L' w1 w' a' h2 h3 (by
    cases k with
    | false => exact ⟨fun h => (by cases h), fun h => absurd h (show ¬ 1 ≤ 0 by decide)⟩
    | true =>
      match m with
      | 0 => exact ⟨fun h => (by cases h), fun h => absurd h (show ¬ 1 ≤ 0 by decide)⟩
      | m + 1 => exact ⟨fun h => (by cases h), fun _ => hkeep rfl (hreg.2 (by omega))⟩)
  rw [hc] at hc'
  cases hc'
  rw [List.setIfInBounds_toArray]
  exact hw
def want (ops : Array Oper) (tm : List (Nat × SV)) (o : Oper) : Option Bool :=
  match o.guard with
  | none => some true
  | some (j, b) => match ops[j]? with
    | some oj => match oj.dst with
      | some t => match lk tm t with
        | some (.one (.v (.bool c))) => some (match c, b with | true, true => true | false, false => true | _, _ => false)
        | some (.one (.v (.tuple _))) => some false
        | _ => none
      | none => none
    | none => none
theorem want_run {N : Nat} {L : List Nat} {a : Act} (ht : TOK N L tm a) {o : Oper} {b : Bool} (h : want ops tm o = some b) : Region.wanted o (yielded ops a.tmps) = b := by
  unfold want at h
  unfold Region.wanted
  cases hg : o.guard with
  | none => rw [hg] at h; exact Option.some.inj h
  | some jb =>
    obtain ⟨j, c⟩ := jb
    rw [hg] at h
    simp only at h ⊢
    split at h
    · rename_i oj hj
      split at h
      · rename_i t hd
        split at h
        · rename_i d hl
          have h1 := ht.2.2 t _ hl
          have : yielded ops a.tmps j = some d := by
            simp only [yielded, hj, Option.bind_some, hd, h1, SV.val, SC.val]
          rw [this]
          obtain rfl := Option.some.inj h
          cases d <;> cases c <;> rfl
        · rename_i d hl
          have h1 := ht.2.2 t _ hl
          have : yielded ops a.tmps j = none := by
            simp only [yielded, hj, Option.bind_some, hd, h1, SV.val, SC.val]
          rw [this]
          obtain rfl := Option.some.inj h
          cases c <;> rfl
        · cases h
      · cases h
    · cases h
def putO (N : Nat) (tm : List (Nat × SV)) (dst : Option Tmp) (v : SV) : Option (List (Nat × SV)) :=
  match dst with
  | none => some tm
  | some d => bif Nat.blt d N then some (pt tm d v) else none
/-- What an operation that is not wanted leaves. -/
def undO (N : Nat) (tm : List (Nat × SV)) (dst : Option Tmp) : List (Nat × SV) :=
  match dst with
  | none => tm
  | some d => bif Nat.blt d N then pt tm d (.one (.v (.tuple #[]))) else del tm d
theorem undO_run {N : Nat} {L : List Nat} {tm : List (Nat × SV)} {a : Act} (ht : TOK N L tm a) (d : Option Tmp) : TOK N L (undO N tm d) (a.put d undef) := by
  cases d with
  | none => exact ht
  | some d =>
    simp only [undO]
    cases hb : Nat.blt d N with
    | true => exact ht.put hb (.one (.v (.tuple #[])))
    | false => exact ht.del d undef
def delO (tm : List (Nat × SV)) (dst : Option Tmp) : List (Nat × SV) :=
  match dst with
  | none => tm
  | some d => del tm d
theorem putO_run {N : Nat} {L : List Nat} {a : Act} (ht : TOK N L tm a) {d : Option Tmp} {v : SV} {tm' : List (Nat × SV)} (h : putO N tm d v = some tm') : TOK N L tm' (a.put d (v.val L)) := by
  cases d with
  | none => obtain rfl := Option.some.inj h; exact ht
  | some d =>
    simp only [putO] at h
    cases hb : Nat.blt d N with
    | false => rw [hb] at h; cases h
    | true => rw [hb] at h; obtain rfl := Option.some.inj h; exact ht.put hb v
theorem delO_run {N : Nat} {L : List Nat} {a : Act} (ht : TOK N L tm a) (d : Option Tmp) (u : Value) : TOK N L (delO tm d) (a.put d u) := by
  cases d with
  | none => exact ht
  | some d => exact ht.del d u
theorem wpOp_value {P : Program} {Q : Exit → Act → World → Prop} {N : Act → World → Prop} {a : Act} {w w' : World} {o : Oper} {v : Value} (hi : ops[i]? = some o) (hw : Region.wanted o (yielded ops a.tmps) = true)
    (hr : (execOp a.eval o).run P w = .ok (.value v) w') (h : N (a.put o.dst v) w') : wpOp P ops Q i N a w := by
  unfold wpOp
  simp only [hi, hw, if_true]
  exact .inl (by unfold Oper.wp; rw [hr]; exact h)
theorem wpOp_skip {P : Program} {Q : Exit → Act → World → Prop} {N : Act → World → Prop} {a : Act} {w w' : World} {o : Oper} (hi : ops[i]? = some o) (hw : Region.wanted o (yielded ops a.tmps) = true)
    (hr : (execOp a.eval o).run P w = .ok .skip w') (h : N (a.put o.dst undef) w') : wpOp P ops Q i N a w := by
  unfold wpOp
  simp only [hi, hw, if_true]
  exact .inl (by unfold Oper.wp; rw [hr]; exact h)
theorem wpOp_not {P : Program} {Q : Exit → Act → World → Prop} {N : Act → World → Prop} {a : Act} {w : World} {o : Oper} (hi : ops[i]? = some o) (hw : Region.wanted o (yielded ops a.tmps) = false)
    (h : N (a.put o.dst undef) w) : wpOp P ops Q i N a w := by
  unfold wpOp
  simp only [hi, hw, Bool.false_eq_true, if_false]
  exact h
def evalAny (P : Program) (tm : List (Nat × SV)) (lb : List LB) (m2 : Bool) (o : Oper) : Option SV :=
  match evalP P tm o with
  | some v => some v
  | none => bif m2 then evalL P tm lb o else none
/-- What an operation that is no event leaves: the registers, the blocks, whether old memory stays. -/
def opStep (P : Program) (N : Nat) (ops : Array Oper) (tm : List (Nat × SV)) (lb : List LB) (i : Nat) : Option (List (Nat × SV) × List LB × Bool) :=
  match ops[i]? with
  | none => none
  | some o => match want ops tm o with
    | none => none
    | some false => some (undO N tm o.dst, lb, true)
    | some true => match evalAny P tm lb true o with
      | some v => match putO N tm o.dst v with
        | some tm' => some (tm', lb, true)
        | none => none
      | none => match doW P tm lb o with
        | some (.new b v) => bif wfAll lb.length tm lb && b.cells.all (SC.wf lb.length) then
            match putO N tm o.dst v with
            | some tm' => some (tm', lb ++ [b], true)
            | none => none
          else none
        | some (.upd h b) => match lb[h]? with
          | some b0 => bif Nat.beq b.ty b0.ty then some (delO tm o.dst, lb.set h b, false) else none
          | none => none
        | none => none
theorem evalAny_run {P : Program} {N : Nat} {L : List Nat} {a : Act} (ht : TOK N L tm a) {m2 : Bool} {o : Oper} {v : SV} (h : evalAny P tm lb m2 o = some v) {w : World} (hl : LOK L lb w.heap) :
    (execOp a.eval o).run P w = .ok (.value (v.val L)) w := by
  unfold evalAny at h
  cases hp : evalP P tm o with
  | some u => rw [hp] at h; obtain rfl := Option.some.inj h; exact evalP_run ht hp w
  | none =>
    rw [hp] at h
    cases m2 with
    | false => cases h
    | true => exact evalL_run ht h hl
theorem opStep_goes {tm' : List (Nat × SV)} {lb' : List LB} {k : Bool} (h : opStep C.P C.fn.ntmps ops tm lb i = some (tm', lb', k)) :
    GoesTo C ops K i F lb tm k (fun F' lb1 tm1 => F' = F ∧ lb1 = lb' ∧ tm1 = tm') := by
  intro L w a hs ht
  unfold opStep at h
  split at h
  · cases h
  · rename_i o hi
    split at h
    · cases h
    · rename_i hw
      cases h
      exact wpOp_not hi (want_run ht hw) ⟨⟨F, _, _, L, ⟨rfl, rfl, rfl⟩, hs, undO_run ht _⟩, fun _ _ _ => rfl⟩
    · rename_i hw
      split at h
      · rename_i v hv
        split at h
        · rename_i tm1 hp
          cases h
          exact wpOp_value hi (want_run ht hw) (evalAny_run ht hv hs.2.1) ⟨⟨F, _, _, L, ⟨rfl, rfl, rfl⟩, hs, putO_run ht hp⟩, fun _ _ _ => rfl⟩
        · cases h
      · split at h
        · rename_i b v hd
          cases hb : (wfAll lb.length tm lb && b.cells.all (SC.wf lb.length)) with
          | false => rw [hb] at h; cases h
          | true =>
            rw [hb] at h
            simp only [cond_true] at h
            split at h
            · rename_i tm1 hp
              cases h
              obtain ⟨h1, h2⟩ : wfAll lb.length tm lb = true ∧ b.cells.all (SC.wf lb.length) = true := by simpa only [Bool.and_eq_true] using hb
              obtain ⟨h3, h4⟩ : tm.all (fun p => p.2.wf lb.length) = true ∧ lb.all (fun b => b.cells.all (SC.wf lb.length)) = true := by simpa only [wfAll, Bool.and_eq_true] using h1
              rw [hs.2.1.1] at h2 h3 h4
              have hr := doW_run ht hd hs.2.1
              obtain ⟨⟨henv, hpre⟩, hl, S, hS, hF⟩ := hs
              refine wpOp_value hi (want_run ht hw) hr ⟨⟨F, _, _, L ++ [w.heap.size], ⟨rfl, rfl, rfl⟩, ⟨⟨⟨henv.os, henv.tape, henv.output, ?_⟩, hpre.trans (List.prefix_append _ _)⟩, hl.new h4 h2, S, fun x hx => ?_, sepL_loc (fun x hx hlt => Below.heap_alloc w _ _ hlt) hF⟩, putO_run (ht.app h3) hp⟩, fun _ x hx => Below.heap_alloc w _ _ hx⟩
              · have := henv.size; show _ ≤ (w.heap.push _).size; rw [Array.size_push]; omega
              · obtain ⟨ha, hb⟩ := hS x hx
                refine ⟨by show _ < (w.heap.push _).size; rw [Array.size_push]; omega, fun hm => ?_⟩
                rcases List.mem_append.1 hm with hm | hm
                · exact hb hm
                · rw [List.mem_singleton.1 hm] at ha; omega
            · cases h
        · rename_i k b hd
          split at h
          · rename_i b0 hb0
            cases hty : Nat.beq b.ty b0.ty with
            | false => rw [hty] at h; cases h
            | true =>
              rw [hty] at h
              cases h
              have hr := doW_run ht hd hs.2.1
              obtain ⟨⟨henv, hpre⟩, hl, S, hS, hF⟩ := hs
              have hin : L.getD k 0 ∈ L := by
                have : k < L.length := by rw [← hl.1]; exact (List.getElem?_eq_some_iff.1 hb0).1
                rw [List.getD_eq_getElem?_getD, List.getElem?_eq_getElem this]
                exact List.getElem_mem _
              refine wpOp_skip hi (want_run ht hw) hr ⟨⟨F, _, _, L, ⟨rfl, rfl, rfl⟩, ⟨⟨⟨henv.os, henv.tape, henv.output, ?_⟩, hpre⟩, hl.upd hb0 (Nat.eq_of_beq_eq_true hty), S, fun x hx => ?_, sepL_loc (fun x hx hlt => setRow_other w _ _ _ (fun e => (hS x hx).2 (e ▸ hin))) hF⟩, delO_run ht _ _⟩, fun hk => by cases hk⟩
              · have := henv.size; simpa [World.setRow] using this
              · obtain ⟨ha, hb⟩ := hS x hx
                exact ⟨by simpa [World.setRow] using ha, hb⟩
          · cases h
        · cases h
end
end Go.Proofs.Ytjbbakckckihnaa.Sx
