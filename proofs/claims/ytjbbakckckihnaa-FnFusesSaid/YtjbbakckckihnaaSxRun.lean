/- Library: a checked symbolic machine over the model's code (part SxRun). No conditions: each theorem says its own. -/
import Derived.Test.YtjbbakckckihnaaSxWr
/-! The machine of states: what is known of a call at a place of its text. -/
namespace Go.Proofs.Ytjbbakckckihnaa.Sx
set_option linter.unusedVariables false
set_option linter.unusedSimpArgs false
open Go.RowKit
/-- What is owned: it speaks of the blocks of a set alone. -/
structure HA where
  holds : Hp → (Nat → Prop) → Prop
  mono : ∀ {h : Hp} {S S' : Nat → Prop}, (∀ b, S b → S' b) → holds h S → holds h S'
  loc : ∀ {h h' : Hp} {S : Nat → Prop}, (∀ b, S b → b < h.size → h'[b]? = h[b]?) → holds h S → holds h' S
def sepL : List HA → Hp → (Nat → Prop) → Prop
  | [], _, _ => True
  | A :: l, h, S => ∃ S1 S2 : Nat → Prop, (∀ b, S1 b → S b) ∧ (∀ b, S2 b → S b) ∧ (∀ b, S1 b → ¬ S2 b) ∧ A.holds h S1 ∧ sepL l h S2
theorem sepL_mono : ∀ {l : List HA} {h : Hp} {S S' : Nat → Prop}, (∀ b, S b → S' b) → sepL l h S → sepL l h S'
  | [], _, _, _, _, _ => trivial
  | _ :: _, _, _, _, hs, ⟨S1, S2, h1, h2, hd, hA, hl⟩ => ⟨S1, S2, fun b hb => hs b (h1 b hb), fun b hb => hs b (h2 b hb), hd, hA, hl⟩
theorem sepL_loc : ∀ {l : List HA} {h h' : Hp} {S : Nat → Prop}, (∀ b, S b → b < h.size → h'[b]? = h[b]?) → sepL l h S → sepL l h' S
  | [], _, _, _, _, _ => trivial
  | A :: _, _, _, _, hs, ⟨S1, S2, h1, h2, hd, hA, hl⟩ => ⟨S1, S2, h1, h2, hd, A.loc (fun b hb => hs b (h1 b hb)) hA, sepL_loc (fun b hb => hs b (h2 b hb)) hl⟩
inductive KI where
  | code (p : List Bool)
  | block (id : Nat)
  | loop (p : List Bool)
inductive Rg where
  | no
  | sq (p : List Bool) (i : Nat)
  | dr (p : List Bool) (l : List Bool) (f m : Nat)
  | fx (p : List Bool) (l : List Bool) (f m i : Nat)
structure St where
  rg : Rg
  K : List KI
  tm : List (Nat × SV)
  lb : List LB
structure Cx where
  P : Program
  fn : Func
  B : Code
  R : Ending → World → Prop
  w0 : World
  L0 : List Nat
def sub : List Bool → Code → Option Code
  | [], c => some c
  | x :: p, .seq a b => sub p (bif x then b else a)
  | x :: p, .cond _ a b => sub p (bif x then b else a)
  | _ :: p, .block _ c => sub p c
  | _ :: p, .loop c => sub p c
  | _, _ => none
theorem sub_app : ∀ {p : List Bool} {c d : Code}, sub p c = some d → ∀ q, sub (p ++ q) c = sub q d
  | [], c, d, h, q => by obtain rfl := Option.some.inj h; rfl
  | x :: p, c, d, h, q => by
    cases c <;> simp only [sub] at h <;> try (cases h; done)
    all_goals (simp only [List.cons_append, sub]; exact sub_app h q)
/-- A loop at a round's head. -/
def LoopGo (P : Program) (c : Code) (Q : Exit → Act → World → Prop) (a : Act) (w : World) : Prop :=
  ∀ (b : Frame) (k : List Item) (cs : List Frame), ∃ e a' w', Q e a' w' ∧ Arrives P (lone (b.at a (.code c :: .inLoop c :: k)) cs w) b k cs e a' w'
theorem LoopGo.wp {P : Program} {c : Code} {Q : Exit → Act → World → Prop} {a : Act} {w : World} (h : LoopGo P c Q a w) : (Code.loop c).wp P Q a w :=
  fun b k cs => let ⟨e, a', w', hq, r⟩ := h b k cs; ⟨e, a', w', hq, .of_steps (.one step_loop) r⟩
theorem loopGo_round {P : Program} {c : Code} {Q : Exit → Act → World → Prop} {a : Act} {w : World} (h : c.wp P (Exit.then (LoopGo P c Q) Q) a w) : LoopGo P c Q a w := by
  intro b k cs
  obtain ⟨e, a₁, w₁, hq, harr⟩ := h b (.inLoop c :: k) cs
  cases e with
  | normal =>
    obtain ⟨e₂, a₂, w₂, hq₂, harr₂⟩ := hq b k cs
    exact ⟨e₂, a₂, w₂, hq₂, .of_steps (Steps.trans harr (.one step_inLoop)) harr₂⟩
  | exit id => exact ⟨_, a₁, w₁, hq, .pass (x := .inLoop c) rfl (fun _ _ => .inl (by simp)) harr⟩
  | goto l => exact ⟨_, a₁, w₁, hq, .pass (x := .inLoop c) rfl (fun _ _ => .inl (by simp)) harr⟩
  | ret => exact ⟨_, a₁, w₁, hq, .pass (x := .inLoop c) rfl (fun _ _ => .inl (by simp)) harr⟩
  | panic ch => exact ⟨_, a₁, w₁, hq, .pass (x := .inLoop c) rfl (fun _ _ => .inl (by simp)) harr⟩
  | outgrown => exact ⟨_, a₁, w₁, hq, .pass (x := .inLoop c) rfl (fun _ _ => .inl (by simp)) harr⟩
def exitK (id : Nat) : List KI → Option (List KI)
  | [] => none
  | .block j :: K => bif Nat.beq id j then some K else exitK id K
  | _ :: K => exitK id K
def runK (C : Cx) : List KI → Exit → Act → World → Prop
  | [], e, a, w => bodyPost C.P C.fn C.R e a w
  | .code p :: K, .normal, a, w => ∃ c, sub p C.B = some c ∧ c.wp C.P (runK C K) a w
  | .loop p :: K, .normal, a, w => ∃ c, sub p C.B = some c ∧ LoopGo C.P c (runK C K) a w
  | .block _ :: K, .normal, a, w => runK C K .normal a w
  | .block id :: K, .exit j, a, w => if j = id then runK C K .normal a w else runK C K (.exit j) a w
  | _ :: K, e, a, w => runK C K e a w
theorem exitK_run {C : Cx} {id : Nat} : ∀ {K K' : List KI} {a : Act} {w : World}, exitK id K = some K' → runK C K' .normal a w → runK C K (.exit id) a w
  | [], _, _, _, h, _ => by cases h
  | .block j :: K, K', a, w, h, hr => by
    simp only [exitK] at h
    simp only [runK]
    cases hb : Nat.beq id j with
    | true =>
      rw [hb] at h
      obtain rfl := Option.some.inj h
      rw [if_pos (Nat.eq_of_beq_eq_true hb)]
      exact hr
    | false =>
      rw [hb] at h
      rw [if_neg (fun e => by rw [e, Nat.beq_refl] at hb; cases hb)]
      exact exitK_run h hr
  | .code _ :: K, K', a, w, h, hr => exitK_run (K := K) h hr
  | .loop _ :: K, K', a, w, h, hr => exitK_run (K := K) h hr
theorem runK_ret {C : Cx} : ∀ (K : List KI) (a : Act) (w : World), runK C K .ret a w = bodyPost C.P C.fn C.R .ret a w
  | [], _, _ => rfl
  | .code _ :: K, a, w => runK_ret K a w
  | .loop _ :: K, a, w => runK_ret K a w
  | .block _ :: K, a, w => runK_ret K a w
theorem runK_panic {C : Cx} {c : List PanicEntry} : ∀ (K : List KI) (a : Act) (w : World), runK C K (.panic c) a w = bodyPost C.P C.fn C.R (.panic c) a w
  | [], _, _ => rfl
  | .code _ :: K, a, w => runK_panic K a w
  | .loop _ :: K, a, w => runK_panic K a w
  | .block _ :: K, a, w => runK_panic K a w
theorem runK_put {C : Cx} {K : List KI} {c : List PanicEntry} {a : Act} {w : World} {d : Option Tmp} {v : Value} (h : runK C K (.panic c) (a.put d v) w) : runK C K (.panic c) a w := by
  rw [runK_panic] at h ⊢
  cases d <;> exact h
def isLoad (ops : Array Oper) (r : Nat) : Bool :=
  match ops[r]? with
  | some o => match o.op with
    | .load _ _ => true
    | _ => false
  | none => false
def orE (acc : List Nat) : List Edge → Nat
  | [] => 0
  | e :: r => bif Region.binds .any e then Nat.lor (Nat.lor (Nat.shiftLeft 1 e.on) (acc.getD e.on 0)) (orE acc r) else orE acc r
def ancL : List Oper → List Nat → List Nat
  | [], acc => acc
  | o :: r, acc => ancL r (acc ++ [orE acc o.after.toList])
/-- Those that stand ahead of number j, as bits. -/
def ancB (ops : Array Oper) (j : Nat) : Nat := (ancL ops.toList []).getD j 0
theorem bit_test {t r : Nat} (h : (Nat.shiftLeft 1 t).testBit r = true) : t = r := by
  have h : (1 <<< t).testBit r = true := h
  rw [Nat.one_shiftLeft, Nat.testBit_two_pow] at h
  exact of_decide_eq_true h
theorem orE_spec {ops : Array Oper} {acc : List Nat} {k : Nat} {o : Oper} (ho : ops[k]? = some o) (hacc : ∀ m r, (acc.getD m 0).testBit r = true → Anc ops r m) : ∀ (es : List Edge), (∀ e ∈ es, e ∈ o.after) → ∀ r, (orE acc es).testBit r = true → Anc ops r k
  | [], _, r, h => by simp [orE] at h
  | e :: es, he, r, h => by
    simp only [orE] at h
    have ih := orE_spec ho hacc es (fun x hx => he x (List.mem_cons_of_mem _ hx)) r
    cases hb : Region.binds .any e with
    | false => rw [hb] at h; exact ih h
    | true =>
      rw [hb] at h
      simp only [cond_true] at h
      have h : ((Nat.shiftLeft 1 e.on ||| acc.getD e.on 0) ||| orE acc es).testBit r = true := h
      rw [Nat.testBit_or, Nat.testBit_or, Bool.or_eq_true, Bool.or_eq_true] at h
      rcases h with (h | h) | h
      · exact .base ho (he e List.mem_cons_self) hb (bit_test h)
      · exact .step ho (he e List.mem_cons_self) hb rfl (hacc e.on r h)
      · exact ih h
theorem ancL_spec {ops : Array Oper} : ∀ (l : List Oper) (acc : List Nat), (∀ j, l[j]? = ops[acc.length + j]?) → (∀ m r, (acc.getD m 0).testBit r = true → Anc ops r m) → ∀ m r, ((ancL l acc).getD m 0).testBit r = true → Anc ops r m
  | [], acc, _, hacc => hacc
  | o :: l, acc, hl, hacc => by
    refine ancL_spec l _ (fun j => ?_) (fun m r h => ?_)
    · have := hl (j + 1)
      simp only [List.getElem?_cons_succ] at this
      rw [this]
      simp [Nat.add_assoc, Nat.add_comm 1 j]
    · have h0 : ops[acc.length]? = some o := by simpa using (hl 0).symm
      rcases Nat.lt_trichotomy m acc.length with hm | hm | hm
      · rw [List.getD_eq_getElem?_getD, List.getElem?_append_left hm, ← List.getD_eq_getElem?_getD] at h
        exact hacc m r h
      · subst hm
        simp only [List.getD_eq_getElem?_getD, List.getElem?_concat_length, Option.getD_some] at h
        exact orE_spec h0 hacc _ (fun e he => by simpa using he) r h
      · rw [List.getD_eq_getElem?_getD, List.getElem?_eq_none (by simp; omega)] at h
        simp at h
theorem ancB_spec {ops : Array Oper} {r j : Nat} (h : (ancB ops j).testBit r = true) : Anc ops r j :=
  ancL_spec ops.toList [] (fun j => by simp) (fun m r h => by simp at h) j r h
/-- An operation that may come ahead of a load. -/
def nsB (ops : Array Oper) (j : Nat) : Bool := (List.range ops.size).any fun r => isLoad ops r && (!(Nat.beq r j) && !((ancB ops j).testBit r))
theorem nsB_spec {ops : Array Oper} {i j : Nat} (hi : isLoad ops i = true) (hn : nsB ops j = false) (hne : j ≠ i) : Anc ops i j := by
  have hlt : i < ops.size := by
    unfold isLoad at hi
    cases h : ops[i]? with
    | none => simp [h] at hi
    | some o => exact (Array.getElem?_eq_some_iff.1 h).1
  simp only [nsB, List.any_eq_false, List.mem_range] at hn
  have h1 := hn i hlt
  have h2 : Nat.beq i j = false := by
    cases hb : Nat.beq i j with
    | true => exact absurd (Nat.eq_of_beq_eq_true hb).symm hne
    | false => rfl
  simp only [hi, h2, Bool.not_false, Bool.true_and, Bool.not_eq_true, Bool.not_eq_false'] at h1
  exact ancB_spec h1
def closedB (ops : Array Oper) (l : List Bool) : Bool := (List.range ops.size).all fun k => !(l.getD k false) || match ops[k]? with
  | some o => o.after.toList.all fun e => !(Region.binds .any e) || l.getD e.on false
  | none => true
theorem closedB_spec {ops : Array Oper} {l : List Bool} (h : closedB ops l = true) : Closed ops l.toArray := by
  intro k o hk ho e he hb
  have h1 := List.all_eq_true.1 h k (List.mem_range.2 (Array.getElem?_eq_some_iff.1 ho).1)
  have hk : l.getD k false = true := by simpa [List.getD_eq_getElem?_getD] using hk
  rw [hk, ho] at h1
  have h2 := List.all_eq_true.1 (show (o.after.toList.all fun e => !(Region.binds .any e) || l.getD e.on false) = true from h1) e (by simpa using he)
  rw [hb] at h2
  simpa [List.getD_eq_getElem?_getD] using h2
def keepAll (w1 w : World) : Prop := ∀ b, b < w1.heap.size → w.heap[b]? = w1.heap[b]?
def runR (C : Cx) (S : World → Prop) : Rg → List KI → Act → World → Prop
  | .no, K, a, w => runK C K .normal a w
  | .sq p i, K, a, w => ∃ id ops, sub p C.B = some (.region id ops false) ∧ wpOps C.P ops (runK C K) (List.range' i (ops.size - i)) a w
  | .dr p l f _, K, a, w => ∃ id ops, sub p C.B = some (.region id ops true) ∧ wpS C.P ops (runK C K) S (nsB ops) f l.toArray a w
  | .fx p l f _ i, K, a, w => ∃ id ops, sub p C.B = some (.region id ops true) ∧ wpOp C.P ops (runK C K) i (fun a' w' => (nsB ops i = true → S w → S w') ∧ wpS C.P ops (runK C K) S (nsB ops) f (l.toArray.setIfInBounds i true) a' w') a w
structure Env (w0 w : World) : Prop where
  os : w.os = w0.os
  tape : w.tape = w0.tape
  output : w.output = w0.output
  size : w0.heap.size ≤ w.heap.size
def SOK (C : Cx) (F : List HA) (lb : List LB) (L : List Nat) (w : World) : Prop :=
  (Env C.w0 w ∧ C.L0 <+: L) ∧ LOK L lb w.heap ∧ ∃ S : Nat → Prop, (∀ b, S b → b < w.heap.size ∧ b ∉ L) ∧ sepL F w.heap S
def RegOK : Rg → World → World → Prop
  | .dr _ _ _ m, w1, w => (m = 2 → w.heap = w1.heap) ∧ (1 ≤ m → keepAll w1 w)
  | .fx _ _ _ m _, w1, w => (m = 2 → w.heap = w1.heap) ∧ (1 ≤ m → keepAll w1 w)
  | _, _, _ => True
def Holds (C : Cx) (F : List HA) (st : St) : Prop :=
  ∀ (L : List Nat) (w1 w : World) (a : Act), SOK C F st.lb L w → TOK C.fn.ntmps L st.tm a → RegOK st.rg w1 w → runR C (keepAll w1) st.rg st.K a w
/-! ### Steps of control -/
section
variable {C : Cx} {F : List HA} {K : List KI} {tm : List (Nat × SV)} {lb : List LB} {p : List Bool}
theorem h_skip (hc : sub p C.B = some .skip) (h : Holds C F ⟨.no, K, tm, lb⟩) : Holds C F ⟨.no, .code p :: K, tm, lb⟩ :=
  fun L w1 w a hs ht hr => ⟨_, hc, wp_skip (h L w1 w a hs ht hr)⟩
theorem h_label {l : Nat} (hc : sub p C.B = some (.label l)) (h : Holds C F ⟨.no, K, tm, lb⟩) : Holds C F ⟨.no, .code p :: K, tm, lb⟩ :=
  fun L w1 w a hs ht hr => ⟨_, hc, wp_label (h L w1 w a hs ht hr)⟩
theorem then_code {x y : Code} {a : Act} {w : World} {q : List Bool} (hy : sub q C.B = some y) (h : ∃ c, sub p C.B = some c ∧ c.wp C.P (runK C (.code q :: K)) a w) (hx : sub p C.B = some x) :
    (Code.seq x y).wp C.P (runK C K) a w := by
  obtain ⟨c, hc, hw⟩ := h
  rw [hx] at hc
  obtain rfl := Option.some.inj hc
  refine wp_seq (Code.wp_mono (fun e a w he => ?_) hw)
  cases e with
  | normal =>
    obtain ⟨d, hd, hw⟩ := he
    rw [hy] at hd
    obtain rfl := Option.some.inj hd
    exact hw
  | _ => exact he
theorem h_seq {x y : Code} (hc : sub p C.B = some (.seq x y)) (h : Holds C F ⟨.no, .code (p ++ [false]) :: .code (p ++ [true]) :: K, tm, lb⟩) : Holds C F ⟨.no, .code p :: K, tm, lb⟩ :=
  fun L w1 w a hs ht hr => ⟨_, hc, then_code (sub_app hc [true]) (h L w1 w a hs ht hr) (sub_app hc [false])⟩
theorem h_block {id : Nat} {c : Code} (hc : sub p C.B = some (.block id c)) (h : Holds C F ⟨.no, .code (p ++ [true]) :: .block id :: K, tm, lb⟩) : Holds C F ⟨.no, .code p :: K, tm, lb⟩ :=
  fun L w1 w a hs ht hr => ⟨_, hc, by
    obtain ⟨d, hd, hw⟩ := h L w1 w a hs ht hr
    rw [sub_app hc [true]] at hd
    obtain rfl := Option.some.inj hd
    refine wp_block (Code.wp_mono (fun e a w he => ?_) hw)
    cases e <;> exact he⟩
theorem h_loop {c : Code} (hc : sub p C.B = some (.loop c)) (h : Holds C F ⟨.no, .loop (p ++ [true]) :: K, tm, lb⟩) : Holds C F ⟨.no, .code p :: K, tm, lb⟩ :=
  fun L w1 w a hs ht hr => ⟨_, hc, by
    obtain ⟨d, hd, hw⟩ := h L w1 w a hs ht hr
    rw [sub_app hc [true]] at hd
    obtain rfl := Option.some.inj hd
    exact hw.wp⟩
theorem h_round (h : Holds C F ⟨.no, .code p :: .loop p :: K, tm, lb⟩) : Holds C F ⟨.no, .loop p :: K, tm, lb⟩ :=
  fun L w1 w a hs ht hr => by
    obtain ⟨c, hc, hw⟩ := h L w1 w a hs ht hr
    refine ⟨c, hc, loopGo_round (Code.wp_mono (fun e a w he => ?_) hw)⟩
    cases e with
    | normal =>
      obtain ⟨d, hd, hg⟩ := he
      rw [hc] at hd
      obtain rfl := Option.some.inj hd
      exact hg
    | _ => exact he
theorem h_exit {id : Nat} {K' : List KI} (hc : sub p C.B = some (.exit id)) (hk : exitK id K = some K') (h : Holds C F ⟨.no, K', tm, lb⟩) : Holds C F ⟨.no, .code p :: K, tm, lb⟩ :=
  fun L w1 w a hs ht hr => ⟨_, hc, wp_exit (exitK_run hk (h L w1 w a hs ht hr))⟩
theorem h_blockEnd {id : Nat} (h : Holds C F ⟨.no, K, tm, lb⟩) : Holds C F ⟨.no, .block id :: K, tm, lb⟩ :=
  fun L w1 w a hs ht hr => h L w1 w a hs ht hr
theorem h_cond {c : Operand} {x y : Code} {b : Bool} (hc : sub p C.B = some (.cond c x y)) (hb : opv tm c = some (.one (.v (.bool b)))) (h : Holds C F ⟨.no, .code (p ++ [!b]) :: K, tm, lb⟩) : Holds C F ⟨.no, .code p :: K, tm, lb⟩ :=
  fun L w1 w a hs ht hr => by
    obtain ⟨d, hd, hw⟩ := h L w1 w a hs ht hr
    rw [sub_app hc] at hd
    refine ⟨_, hc, wp_cond (t := b) (opv_eval ht hb) ?_⟩
    cases b <;> (obtain rfl := Option.some.inj hd; exact hw)
theorem h_region {id : Nat} {ops : Array Oper} (hc : sub p C.B = some (.region id ops false)) (h : Holds C F ⟨.sq p 0, K, tm, lb⟩) : Holds C F ⟨.no, .code p :: K, tm, lb⟩ :=
  fun L w1 w a hs ht hr => ⟨_, hc, by
    obtain ⟨id', ops', hc', hw⟩ := h L w1 w a hs ht trivial
    rw [hc] at hc'
    cases hc'
    refine wp_region ?_
    rw [List.range_eq_range']
    exact hw⟩
theorem h_regionEnd {id i : Nat} {ops : Array Oper} (hc : sub p C.B = some (.region id ops false)) (hi : ops[i]? = none) (h : Holds C F ⟨.no, K, tm, lb⟩) : Holds C F ⟨.sq p i, K, tm, lb⟩ :=
  fun L w1 w a hs ht hr => ⟨id, ops, hc, by
    have : ops.size - i = 0 := by have := Array.getElem?_eq_none_iff.1 hi; omega
    rw [this]
    exact h L w1 w a hs ht trivial⟩
theorem SOK.drew {L : List Nat} {w : World} (h : SOK C F lb L w) : SOK C F lb L { w with drawn := w.drawn + 1 } := ⟨⟨⟨h.1.1.os, h.1.1.tape, h.1.1.output, h.1.1.size⟩, h.1.2⟩, h.2.1, h.2.2⟩
theorem h_draw {id : Nat} {ops : Array Oper} (hm : C.P.follows .mixedOrders = true) (hc : sub p C.B = some (.region id ops true)) (h : Holds C F ⟨.dr p (List.replicate ops.size false) ops.size 2, K, tm, lb⟩) :
    Holds C F ⟨.no, .code p :: K, tm, lb⟩ :=
  fun L w1 w a hs ht hr => ⟨_, hc, by
    obtain ⟨id', ops', hc', hw⟩ := h L { w with drawn := w.drawn + 1 } { w with drawn := w.drawn + 1 } a hs.drew ht ⟨fun _ => rfl, fun _ _ _ => rfl⟩
    rw [hc] at hc'
    cases hc'
    refine wp_region_S hm (S := keepAll { w with drawn := w.drawn + 1 }) (ns := nsB ops) ?_
    rw [← List.toArray_replicate]
    exact hw⟩
theorem h_drawEnd {id f m : Nat} {ops : Array Oper} {l : List Bool} (hc : sub p C.B = some (.region id ops true)) (hd : Region.ready .any ops l.toArray = []) (h : Holds C F ⟨.no, K, tm, lb⟩) :
    Holds C F ⟨.dr p l f m, K, tm, lb⟩ :=
  fun L w1 w a hs ht hr => ⟨id, ops, hc, wpS_done hd (h L w1 w a hs ht trivial) f⟩
end
end Go.Proofs.Ytjbbakckckihnaa.Sx
