/- Library: a checked symbolic machine over the model's code (part SxVal). No conditions: each theorem says its own. -/
import Derived.Test.YtjbbakckckihnaaSxReg
import Derived.Below
import Derived.KernelRfl
/-! Values with places of their own blocks left open; an operation that yields a value, told by a function. -/
namespace Go.Proofs.Ytjbbakckckihnaa.Sx
set_option linter.unusedVariables false
set_option linter.unusedSimpArgs false
open Go.RowKit
inductive Cap where
  | p (h off : Nat)
  | v (x : Value)
inductive SC where
  | v (x : Value)
  | bo (b : Bool)
  | ptr (h off : Nat)
  | sl (h off len cap : Nat)
  | fn (f : Nat) (caps : List Cap)
inductive SV where
  | one (c : SC)
  | agg (cs : List SC)
structure LB where
  cells : List SC
  ty : Nat
def Cap.val (L : List Nat) : Cap → Value
  | .p h off => .pointer (some ⟨L.getD h 0, off, none⟩)
  | .v x => x
def SC.val (L : List Nat) : SC → Value
  | .v x => x
  | .bo b => .bool b
  | .ptr h off => .pointer (some ⟨L.getD h 0, off, none⟩)
  | .sl h off len cap => .slice (some ⟨L.getD h 0, off, none⟩) len cap
  | .fn f caps => .func (.func f) #[] (caps.map (Cap.val L)).toArray
def SV.val (L : List Nat) : SV → Value
  | .one c => c.val L
  | .agg cs => .agg (cs.map (SC.val L)).toArray
def Cap.wf (n : Nat) : Cap → Bool
  | .p h _ => Nat.blt h n
  | .v _ => true
def SC.wf (n : Nat) : SC → Bool
  | .ptr h _ => Nat.blt h n
  | .sl h _ _ _ => Nat.blt h n
  | .fn _ caps => caps.all (Cap.wf n)
  | _ => true
def SV.wf (n : Nat) : SV → Bool
  | .one c => c.wf n
  | .agg cs => cs.all (SC.wf n)
theorem getD_app {L M : List Nat} {h : Nat} (hh : Nat.blt h L.length = true) : (L ++ M).getD h 0 = L.getD h 0 := by
  have : h < L.length := by simpa [Nat.blt_eq] using hh
  simp [List.getD_eq_getElem?_getD, List.getElem?_append_left this]
theorem Cap.val_app {L M : List Nat} {c : Cap} (h : c.wf L.length = true) : c.val (L ++ M) = c.val L := by
  cases c with
  | p a o => simp only [Cap.val, getD_app h]
  | v x => rfl
theorem SC.val_app {L M : List Nat} {c : SC} (h : c.wf L.length = true) : c.val (L ++ M) = c.val L := by
  cases c with
  | v x => rfl
  | bo b => rfl
  | ptr a o => simp only [SC.val, getD_app h]
  | sl a o n c => simp only [SC.val, getD_app h]
  | fn f caps =>
    simp only [SC.val]
    congr 2
    exact List.map_congr_left fun c hc => Cap.val_app (List.all_eq_true.1 h c hc)
theorem SV.val_app {L M : List Nat} {c : SV} (h : c.wf L.length = true) : c.val (L ++ M) = c.val L := by
  cases c with
  | one c => exact SC.val_app h
  | agg cs =>
    simp only [SV.val]
    congr 2
    exact List.map_congr_left fun c hc => SC.val_app (List.all_eq_true.1 h c hc)
/-! ### What is known of the registers -/
def lk : List (Nat × SV) → Nat → Option SV
  | [], _ => none
  | (t, v) :: r, k => bif Nat.beq t k then some v else lk r k
def del : List (Nat × SV) → Nat → List (Nat × SV)
  | [], _ => []
  | (t, v) :: r, k => bif Nat.beq t k then del r k else (t, v) :: del r k
def pt (tm : List (Nat × SV)) (t : Nat) (v : SV) : List (Nat × SV) := (t, v) :: del tm t
theorem lk_del {tm : List (Nat × SV)} {k t : Nat} {v : SV} (h : lk (del tm k) t = some v) : lk tm t = some v ∧ t ≠ k := by
  induction tm with
  | nil => simp [del, lk] at h
  | cons x r ih =>
    obtain ⟨s, u⟩ := x
    simp only [del] at h
    cases hsk : Nat.beq s k with
    | true =>
      rw [hsk] at h
      obtain ⟨h1, h2⟩ := ih h
      refine ⟨?_, h2⟩
      simp only [lk]
      cases hst : Nat.beq s t with
      | true => exact absurd ((Nat.eq_of_beq_eq_true hst).symm.trans (Nat.eq_of_beq_eq_true hsk)) h2
      | false => exact h1
    | false =>
      rw [hsk] at h
      simp only [cond_false, lk] at h ⊢
      cases hst : Nat.beq s t with
      | true =>
        rw [hst] at h
        refine ⟨h, fun e => ?_⟩
        subst e
        rw [hst] at hsk
        cases hsk
      | false => rw [hst] at h; exact ih h
theorem lk_pt {tm : List (Nat × SV)} {k t : Nat} {u v : SV} (h : lk (pt tm k u) t = some v) : (t = k ∧ v = u) ∨ (t ≠ k ∧ lk tm t = some v) := by
  simp only [pt, lk] at h
  cases hkt : Nat.beq k t with
  | true =>
    rw [hkt] at h
    exact .inl ⟨(Nat.eq_of_beq_eq_true hkt).symm, (Option.some.inj h).symm⟩
  | false => rw [hkt] at h; exact .inr ⟨(lk_del h).2, (lk_del h).1⟩
/-- What the list tells of the registers is so. -/
def TOK (N : Nat) (L : List Nat) (tm : List (Nat × SV)) (a : Act) : Prop :=
  a.tmps.size = N ∧ a.defers = [] ∧ ∀ t v, lk tm t = some v → a.tmps[t]? = some (v.val L)
theorem TOK.put {N : Nat} {L : List Nat} {tm : List (Nat × SV)} {a : Act} (h : TOK N L tm a) {d : Nat} (hd : Nat.blt d N = true) (v : SV) : TOK N L (pt tm d v) (a.put (some d) (v.val L)) := by
  obtain ⟨h1, h2, h3⟩ := h
  have hd : d < a.tmps.size := by rw [h1]; simpa [Nat.blt_eq] using hd
  refine ⟨by simpa [Act.put] using h1, h2, fun t u hu => ?_⟩
  rcases lk_pt hu with ⟨rfl, rfl⟩ | ⟨hne, hu⟩
  · simp [Act.put, hd]
  · rw [Act.put, Array.getElem?_setIfInBounds_ne (Ne.symm hne)]
    exact h3 t u hu
theorem TOK.del {N : Nat} {L : List Nat} {tm : List (Nat × SV)} {a : Act} (h : TOK N L tm a) (d : Nat) (u : Value) : TOK N L (del tm d) (a.put (some d) u) := by
  obtain ⟨h1, h2, h3⟩ := h
  refine ⟨by simpa [Act.put] using h1, h2, fun t v hv => ?_⟩
  rw [Act.put, Array.getElem?_setIfInBounds_ne (Ne.symm (lk_del hv).2)]
  exact h3 t v (lk_del hv).1
theorem TOK.weaken {N : Nat} {L : List Nat} {tm tm' : List (Nat × SV)} {a : Act} (h : TOK N L tm a) (hs : ∀ t v, lk tm' t = some v → lk tm t = some v) : TOK N L tm' a :=
  ⟨h.1, h.2.1, fun t v hv => h.2.2 t v (hs t v hv)⟩
def opv (tm : List (Nat × SV)) : Operand → Option SV
  | .tmp t => lk tm t
  | .const v => some (.one (.v v))
  | .func f => some (.one (.v (.func (.func f) #[] #[])))
  | .global _ => none
theorem opv_eval {N : Nat} {L : List Nat} {tm : List (Nat × SV)} {a : Act} (h : TOK N L tm a) {x : Operand} {v : SV} (hx : opv tm x = some v) : a.eval x = v.val L := by
  cases x with
  | tmp t =>
    have := h.2.2 t v hx
    simp [Act.eval, this]
  | const u => obtain rfl := Option.some.inj hx; rfl
  | func f => obtain rfl := Option.some.inj hx; rfl
  | global g => cases hx
/-! ### A value without places of its own blocks -/
def SC.toV : SC → Option Value
  | .v x => some x
  | .bo b => some (.bool b)
  | _ => none
def cellsV : List SC → Option (List Value)
  | [] => some []
  | c :: r => match c.toV, cellsV r with
    | some x, some l => some (x :: l)
    | _, _ => none
def SV.toV : SV → Option Value
  | .one c => c.toV
  | .agg cs => match cellsV cs with
    | some l => some (.agg l.toArray)
    | none => none
theorem SC.toV_val {c : SC} {x : Value} (h : c.toV = some x) (L : List Nat) : c.val L = x := by
  cases c <;> simp [SC.toV] at h <;> subst h <;> rfl
theorem cellsV_val {cs : List SC} {l : List Value} (h : cellsV cs = some l) (L : List Nat) : cs.map (SC.val L) = l := by
  induction cs generalizing l with
  | nil => simpa [cellsV] using h
  | cons c r ih =>
    simp only [cellsV] at h
    cases hc : c.toV with
    | none => simp [hc] at h
    | some x =>
      cases hr : cellsV r with
      | none => simp [hc, hr] at h
      | some m =>
        simp only [hc, hr, Option.some.injEq] at h
        subst h
        rw [List.map_cons, SC.toV_val hc L, ih hr]
theorem SV.toV_val {c : SV} {x : Value} (h : c.toV = some x) (L : List Nat) : c.val L = x := by
  cases c with
  | one c => exact SC.toV_val h L
  | agg cs =>
    simp only [SV.toV] at h
    cases hc : cellsV cs with
    | none => simp [hc] at h
    | some l =>
      simp only [hc, Option.some.injEq] at h
      subst h
      rw [SV.val, cellsV_val hc L]
/-! ### An operation on such values that asks the program alone -/
def semV {α : Type} (P : Program) : Sem α → Option α
  | .pure a => some a
  | .program k => semV P (k P)
  | _ => none
theorem semV_run {α : Type} {P : Program} {s : Sem α} {x : α} (h : semV P s = some x) (w : World) : s.run P w = .ok x w := by
  induction s with
  | pure a => simp only [semV, Option.some.injEq] at h; subst h; rfl
  | program k ih => exact ih P h
  | _ => simp [semV] at h
def opV (tm : List (Nat × SV)) (x : Operand) : Value :=
  match opv tm x with
  | some v => match v.toV with
    | some u => u
    | none => undef
  | none => undef
def opVok (tm : List (Nat × SV)) (x : Operand) : Bool :=
  match opv tm x with
  | some v => match v.toV with
    | some _ => true
    | none => false
  | none => false
def notSel : Op → Bool
  | .select .. => false
  | _ => true
def gen (P : Program) (tm : List (Nat × SV)) (o : Oper) : Option Next :=
  bif notSel o.op && o.op.operands.toList.all (opVok tm) then semV P (execOp (opV tm) o) else none
theorem opV_eval {N : Nat} {L : List Nat} {tm : List (Nat × SV)} {a : Act} (h : TOK N L tm a) {x : Operand} (hx : opVok tm x = true) : a.eval x = opV tm x := by
  unfold opVok at hx
  unfold opV
  cases ho : opv tm x with
  | none => simp [ho] at hx
  | some v =>
    cases hv : v.toV with
    | none => simp [ho, hv] at hx
    | some u => simp only [hv]; exact (opv_eval h ho).trans (SV.toV_val hv L)
theorem gen_run {P : Program} {N : Nat} {L : List Nat} {tm : List (Nat × SV)} {a : Act} (h : TOK N L tm a) {o : Oper} {n : Next} (hg : gen P tm o = some n) (w : World) :
    (execOp a.eval o).run P w = .ok n w := by
  unfold gen at hg
  cases hb : (notSel o.op && o.op.operands.toList.all (opVok tm)) with
  | false => rw [hb] at hg; cases hg
  | true =>
    rw [hb] at hg
    obtain ⟨h1, h2⟩ : notSel o.op = true ∧ o.op.operands.toList.all (opVok tm) = true := by simpa only [Bool.and_eq_true] using hb
    rw [execOp_congr (ρ' := opV tm) o (fun cs b e => by rw [e] at h1; cases h1) (fun x hx => opV_eval h (List.all_eq_true.1 h2 x (by simpa using hx)))]
    exact semV_run hg w
/-- A result as the lists tell it: a Bool is told as one that may be asked. -/
def wrapC : Value → SC
  | .bool b => .bo b
  | x => .v x
def wrapV : Value → SV
  | .bool b => .one (.bo b)
  | .agg cs => .agg (cs.toList.map wrapC)
  | x => .one (.v x)
theorem wrapC_val (x : Value) (L : List Nat) : (wrapC x).val L = x := by cases x <;> rfl
theorem wrapV_val (x : Value) (L : List Nat) : (wrapV x).val L = x := by
  cases x <;> try rfl
  rename_i cs
  simp only [wrapV, SV.val, List.map_map]
  have : (SC.val L ∘ wrapC) = id := funext fun x => wrapC_val x L
  rw [this]
  simp
end Go.Proofs.Ytjbbakckckihnaa.Sx
