/- Library: a checked symbolic machine over the model's code (part SxNew). No conditions: each theorem says its own. -/
import Derived.Test.YtjbbakckckihnaaSxFocus
/-! Moves: appends to nothing; calls that are handed the place of a block of the list. -/
namespace Go.Proofs.Ytjbbakckckihnaa.Sx
set_option linter.unusedVariables false
set_option linter.unusedSimpArgs false
open Go.RowKit
section
variable {C : Cx} {F : List HA}
/-- An append to nothing leaves all that was. -/
theorem append_grown0 {α : Type} {d : Kn α} {ys : List α} {A : List HA} {A0 : Option Addr} {e : Nat} {lb : List LB} {L : List Nat} {w : World} {P : Program} {t ty by_ : Nat} {a : Addr} {c : Nat} {news : List Value}
    (hs : SOK C (A ++ F) lb L w) (hT : rowTy P t = some (e, d.sz, by_)) (hl : news.length = ys.length * d.sz) (hnews : ∀ j u, news[j]? = some u → w.cell? (a.add j) = some u) (h1 : ∀ u ∈ news, u.oneCell' = true)
    (hys : ∀ S : Nat → Prop, sepL A w.heap S → els d w.heap S ys (fun k => news[k]?)) (h63 : ys.length ≤ maxLen) (hbytes : ys.length * by_ ≤ 140737488355328) :
    ∃ (B : Option Addr) (n : Nat) (w' : World), (Builtin.append_ #[t, t] ty #[.slice A0 0 0, .slice (some a) ys.length c]).run P w = .ok (.slice B ys.length n) w' ∧ (∀ b, b < w.heap.size → w'.heap[b]? = w.heap[b]?) ∧ SOK C (rowA e d ys (.slice B ys.length n) :: F) lb L w' := by
  obtain ⟨i, z, hu, hi, hz, hsz, hzs, hby, h0⟩ := rowTy_spec hT
  obtain ⟨S, hA, hS, hmut⟩ := hs.mut
  obtain ⟨v', w', hr, hg, ho⟩ := append_run (P := P) (t := t) (ty := ty) (xs := []) (S := fun _ => False) (S' := S) hu hi hz hsz hzs h0 (owRow_empty A0) (fun b hb => hb.elim) (fun b hb => (hS b hb).1) (fun b hb => hb.elim) a c news hl hnews h1 (hys S hA) (by simpa using h63) (by rw [hby]; simpa using hbytes)
  obtain ⟨B, n, hv', _⟩ := id ho
  subst hv'
  refine ⟨B, n, w', hr, fun b hb => hg.keep b hb (fun h => h), ?_⟩
  refine hmut w' [rowA e d ys _] hg.os hg.tape hg.output hg.size (fun b hb hn => hg.keep b hb (fun h => h)) ?_
  exact ⟨_, fun _ => False, fun b hb => hb.imp (fun h => h.elim (fun h => h.elim) id) id, fun _ h => h.elim, fun _ _ h => h, rowA_holds.2 ho, trivial⟩
/-- A copy by an append to nothing, ahead of reads of other things. -/
theorem append_newK {α : Type} {f : α → Value} {hf : ∀ x, (f x).oneCell' = true} {ys : List α} {st : St} {ts tx t ty e by_ : Nat} {dst : Option Tmp} {rg' : Rg} {A : Option Addr} {c : Nat}
    (he : atB C.B C.fn.ntmps st true = some (.call { callee := .builtin .append, args := #[.tmp ts, .tmp tx], argTypes := #[t, t] }, ty, dst, rg')) (hT : rowTy C.P t = some (e, 1, by_))
    (hv : ∀ L, ∃ A0, opL L st.tm (.tmp ts) = .slice A0 0 0) (hx : lk st.tm tx = some (.one (.v (.slice A ys.length c)))) (hr : ∀ L w, SOK C F st.lb L w → rdRow (kVal f hf) w.heap ys (.slice A ys.length c))
    (h63 : ys.length ≤ maxLen) (hbytes : ys.length * by_ ≤ 140737488355328)
    (h : ∀ A c, Holds C (rowA e (kVal f hf) ys (.slice A ys.length c) :: F) ⟨rg', st.K, ptO st.tm dst (.one (.v (.slice A ys.length c))), st.lb⟩) : Holds C F st := by
  refine prim_at true he (fun L w hs => ?_)
  have hrow := hr L w hs
  obtain ⟨A0, hA0⟩ := hv L
  cases A with
  | none =>
    have h0 : ys = [] := by
      obtain ⟨A, c', hv', _, hne, _⟩ := hrow
      cases hv'
      apply List.eq_nil_of_length_eq_zero
      apply Nat.eq_zero_of_not_pos
      intro hpos
      obtain ⟨a, ha⟩ := hne hpos
      cases ha
    subst h0
    obtain ⟨i, z, hu, hi, _, _, _, _, _⟩ := rowTy_spec hT
    refine ⟨.one (.v (.slice A0 0 0)), _, st.lb, w, exec_append ?_, fun _ _ _ => rfl, hs.triv (rowA_holds.2 (owRow_empty A0)), h A0 0⟩
    rw [hA0, opL_tmp hx]
    exact append_run0 hu hi (Nat.le_refl _)
  | some a =>
    have hcells := rdRow_sc hrow
    obtain ⟨B, n, w', hr', hk, hs'⟩ := append_grown0 (A0 := A0) (ys := ys) (A := []) (ty := ty) (c := c) (d := kVal f hf) (news := ys.map f) hs hT (by show (ys.map f).length = ys.length * 1; simp) (fun j u hu => hcells j u hu)
      (fun u hu => by obtain ⟨y, _, rfl⟩ := List.mem_map.1 hu; exact hf y) (fun S _ => els_sc ys) h63 hbytes
    refine ⟨.one (.v (.slice B ys.length n)), _, st.lb, w', exec_append ?_, fun _ => hk, hs', h B n⟩
    rw [hA0, opL_tmp hx]
    exact hr'
theorem SOK.rd {α : Type} {d : Kn α} {xs : List α} {v : Value} {e : Nat} {lb : List LB} {L : List Nat} {w : World} (hs : SOK C F lb L w) (n : Nat) (h : F[n]? = some (rowA e d xs v)) : rdRow d w.heap xs v := by
  obtain ⟨_, _, hA⟩ := hs.at_ n h
  exact owRow_read (rowA_holds.1 hA)
/-- What is told is put in another order. -/
theorem h_bring {A : HA} {st : St} (n : Nat) (h : F[n]? = some A) (hh : Holds C (A :: F.eraseIdx n) st) : Holds C F st :=
  h_conseq fun _ _ hs => ⟨_, hs.bring n h, hh⟩
/-- Only those of the numbers are kept. -/
theorem h_erase {st : St} (n : Nat) (A : HA) (h : F[n]? = some A) (hh : Holds C (F.eraseIdx n) st) : Holds C F st :=
  h_conseq fun _ _ hs => ⟨_, (hs.bring n h).drop, hh⟩
/-- Two operations may come up: both orders. -/
def fxOf (st : St) (i : Nat) : St :=
  match st.rg with
  | .dr p l (f + 1) m => ⟨.fx p l f m i, st.K, st.tm, st.lb⟩
  | _ => st
def twoB (B : Code) (st : St) (i j : Nat) : Bool :=
  match st.rg with
  | .dr p l (_ + 1) _ => match sub p B with
    | some (.region _ ops true) => match Region.ready .any ops l.toArray with
      | [a, b] => Nat.beq a i && Nat.beq b j
      | _ => false
    | _ => false
  | _ => false
theorem two_at {st : St} (i j : Nat) (he : twoB C.B st i j = true) (h1 : Holds C F (fxOf st i)) (h2 : Holds C F (fxOf st j)) : Holds C F st := by
  obtain ⟨rg, K, tm, lb⟩ := st
  intro L w1 w a hs ht hr
  cases rg with
  | no => cases he
  | sq p k => cases he
  | fx p l f m k => cases he
  | dr p l f m =>
    cases f with
    | zero => cases he
    | succ f =>
      simp only [twoB] at he
      split at he
      · rename_i id ops hc
        split at he
        · rename_i x y hrd
          obtain ⟨e1, e2⟩ : Nat.beq x i = true ∧ Nat.beq y j = true := by simpa only [Bool.and_eq_true] using he
          obtain rfl := Nat.eq_of_beq_eq_true e1
          obtain rfl := Nat.eq_of_beq_eq_true e2
          refine ⟨id, ops, hc, fun h0 => (by rw [hrd] at h0; cases h0), fun k hk => ?_⟩
          rw [hrd] at hk
          rcases List.mem_cons.1 hk with rfl | hk
          · obtain ⟨id', ops', hc', hw⟩ := h1 L w1 w a hs ht hr
            rw [hc] at hc'
            cases hc'
            exact hw
          · obtain rfl : k = y := by simpa using hk
            obtain ⟨id', ops', hc', hw⟩ := h2 L w1 w a hs ht hr
            rw [hc] at hc'
            cases hc'
            exact hw
        · cases he
      · cases he
end
end Go.Proofs.Ytjbbakckckihnaa.Sx
