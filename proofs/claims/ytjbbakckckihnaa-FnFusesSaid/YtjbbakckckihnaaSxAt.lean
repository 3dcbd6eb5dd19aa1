/- Library: a checked symbolic machine over the model's code (part SxAt). No conditions: each theorem says its own. -/
import Derived.Test.YtjbbakckckihnaaSxOps
/-! The moves of a proof, each with what it leads to written out. -/
namespace Go.Proofs.Ytjbbakckckihnaa.Sx
set_option linter.unusedVariables false
set_option linter.unusedSimpArgs false
open Go.RowKit
section
variable {C : Cx} {F : List HA}
def trim (ks : List Nat) (st : St) : St := ⟨st.rg, st.K, keepTm st.tm ks, st.lb⟩
theorem run_to (hm : C.P.follows .mixedOrders = true) (n : Nat) (ks : List Nat) {st : St} (st' : St) (he : trim ks (exec C.P C.B C.fn.ntmps n st) = st') (h : Holds C F st') : Holds C F st := by
  subst he
  exact exec_ok hm n (h_keep ks h)
theorem round_at {p : List Bool} {K : List KI} {tm : List (Nat × SV)} {lb : List LB} (h : Holds C F ⟨.no, .code p :: .loop p :: K, tm, lb⟩) : Holds C F ⟨.no, .loop p :: K, tm, lb⟩ := h_round h
def atP (B : Code) (N : Nat) (st : St) (i : Nat) (rd : Bool) : Option (Op × Nat × Option Tmp × Rg) :=
  match posP B N st i rd with
  | some (o, rg) => some (o.op, o.type, o.dst, rg)
  | none => none
def atB (B : Code) (N : Nat) (st : St) (k : Bool) : Option (Op × Nat × Option Tmp × Rg) :=
  match posB B N st k with
  | some (_, _, o, rg) => bif known st.tm o then some (o.op, o.type, o.dst, rg) else none
  | none => none
def atC (B : Code) (N : Nat) (st : St) (k : Bool) : Option (Nat × List SV × Option Tmp × Rg) :=
  match posB B N st k with
  | some (_, _, o, rg) => match callOf st.tm o with
    | some (f, as) => some (f, as, o.dst, rg)
    | none => none
  | none => none
def opOf (op : Op) (ty : Nat) : Oper := ⟨none, op, ty, "", #[], none⟩
theorem execOp_opOf (ρ : Operand → Value) (o : Oper) : execOp ρ (opOf o.op o.type) = execOp ρ o := rfl
theorem pure_at {st : St} (i : Nat) (rd : Bool) {op : Op} {ty : Nat} {dst : Option Tmp} {rg' : Rg} (he : atP C.B C.fn.ntmps st i rd = some (op, ty, dst, rg'))
    (h : ∀ L w, SOK C F st.lb L w → ∃ (v : SV) (F' : List HA), (∀ w' : World, (rd = true → ∀ b, b < w.heap.size → w'.heap[b]? = w.heap[b]?) → (execOp (opL L st.tm) (opOf op ty)).run C.P w' = .ok (.value (v.val L)) w') ∧
      SOK C F' st.lb L w ∧ Holds C F' ⟨rg', st.K, ptO st.tm dst v, st.lb⟩) : Holds C F st := by
  unfold atP at he
  split at he
  · rename_i o rg hp
    cases he
    exact ev_pure i rd hp h
  · cases he
theorem prim_at {st : St} (k : Bool) {op : Op} {ty : Nat} {dst : Option Tmp} {rg' : Rg} (he : atB C.B C.fn.ntmps st k = some (op, ty, dst, rg'))
    (h : ∀ L w, SOK C F st.lb L w → ∃ (v : SV) (F' : List HA) (lb' : List LB) (w' : World), (execOp (opL L st.tm) (opOf op ty)).run C.P w = .ok (.value (v.val L)) w' ∧ (k = true → ∀ b, b < w.heap.size → w'.heap[b]? = w.heap[b]?) ∧
      SOK C F' lb' L w' ∧ Holds C F' ⟨rg', st.K, ptO st.tm dst v, lb'⟩) : Holds C F st := by
  unfold atB at he
  split at he
  · rename_i ops i o rg hp
    obtain ⟨hk, he⟩ := bif_some he
    cases he
    exact ev_prim k hp hk h
  · cases he
theorem skip_at {st : St} (k : Bool) {op : Op} {ty : Nat} {dst : Option Tmp} {rg' : Rg} (he : atB C.B C.fn.ntmps st k = some (op, ty, dst, rg'))
    (h : ∀ L w, SOK C F st.lb L w → ∃ (F' : List HA) (lb' : List LB) (w' : World), (execOp (opL L st.tm) (opOf op ty)).run C.P w = .ok .skip w' ∧ (k = true → ∀ b, b < w.heap.size → w'.heap[b]? = w.heap[b]?) ∧
      SOK C F' lb' L w' ∧ Holds C F' ⟨rg', st.K, delO st.tm dst, lb'⟩) : Holds C F st := by
  unfold atB at he
  split at he
  · rename_i ops i o rg hp
    obtain ⟨hk, he⟩ := bif_some he
    cases he
    exact ev_skip k hp hk h
  · cases he
theorem call_at {st : St} (k : Bool) {f : Nat} {as : List SV} {dst : Option Tmp} {rg' : Rg} (he : atC C.B C.fn.ntmps st k = some (f, as, dst, rg'))
    (hg : goesB C.P f = true)
    (h : ∀ L w, SOK C F st.lb L w → Calls C.P f (as.map (SV.val L)).toArray w fun e w' => ∃ (v : SV) (F' : List HA) (lb' : List LB), e = .returned (v.val L) ∧ (k = true → ∀ b, b < w.heap.size → w'.heap[b]? = w.heap[b]?) ∧
      SOK C F' lb' L w' ∧ Holds C F' ⟨rg', st.K, ptO st.tm dst v, lb'⟩) : Holds C F st := by
  unfold atC at he
  split at he
  · rename_i ops i o rg hp
    split at he
    · rename_i f' as' hc
      cases he
      exact ev_call k hp hc hg h
    · cases he
  · cases he
theorem split_at {rg : Rg} {K : List KI} {tm : List (Nat × SV)} {lb : List LB} (t : Nat) {b : Bool} (hl : lk tm t = some (.one (.bo b))) (hN : Nat.blt t C.fn.ntmps = true)
    (h1 : b = true → Holds C F ⟨rg, K, pt tm t (.one (.v (.bool true))), lb⟩) (h2 : b = false → Holds C F ⟨rg, K, pt tm t (.one (.v (.bool false))), lb⟩) : Holds C F ⟨rg, K, tm, lb⟩ := h_split hl hN h1 h2
/-- A Bool that stands there is told as one. -/
theorem lit_at {rg : Rg} {K : List KI} {tm : List (Nat × SV)} {lb : List LB} (t : Nat) {b : Bool} (hl : lk tm t = some (.one (.bo b))) (h : Holds C F ⟨rg, K, pt tm t (.one (.v (.bool b))), lb⟩) : Holds C F ⟨rg, K, tm, lb⟩ := fun L w1 w a hs ht hr =>
  h L w1 w a hs ⟨ht.1, ht.2.1, fun s v hv => by
    rcases lk_pt hv with ⟨rfl, rfl⟩ | ⟨_, hv⟩
    · exact (ht.2.2 s (.one (.bo b)) hl).trans rfl
    · exact ht.2.2 _ _ hv⟩ hr
end
end Go.Proofs.Ytjbbakckckihnaa.Sx
