/- Library: a checked symbolic machine over the model's code (part SxMix). No conditions: each theorem says its own. -/
import Derived.Test.YtjbbakckckihnaaSxPtr
/-! Rows whose elements are of two kinds; a row of rows whose inner rows are frozen. -/
namespace Go.Proofs.Ytjbbakckckihnaa.Sx
set_option linter.unusedVariables false
set_option linter.unusedSimpArgs false
open Go.RowKit
def kOr {α β : Type} (d1 : Kn α) (d2 : Kn β) (hsz : d2.sz = d1.sz) : Kn (α ⊕ β) where
  sz := d1.sz
  rd h x cs := match x with | .inl a => d1.rd h a cs | .inr b => d2.rd h b cs
  ow h S x cs := match x with | .inl a => d1.ow h S a cs | .inr b => d2.ow h S b cs
  len {h x cs} hr := match x, hr with | .inl _, hr => d1.len hr | .inr _, hr => (d2.len hr).trans hsz
  one {h x cs} hr := match x, hr with | .inl _, hr => d1.one hr | .inr _, hr => d2.one hr
  ext {h h' x cs} hb hr := match x, hr with | .inl _, hr => d1.ext hb hr | .inr _, hr => d2.ext hb hr
  read {h S x cs} hr := match x, hr with | .inl _, hr => d1.read hr | .inr _, hr => d2.read hr
  mono {h S S' x cs} hs hr := match x, hr with | .inl _, hr => d1.mono hs hr | .inr _, hr => d2.mono hs hr
  loc {h h' S x cs} hs hr := match x, hr with | .inl _, hr => d1.loc hs hr | .inr _, hr => d2.loc hs hr
/-- A slice's header. -/
structure Hd where
  A : Option Addr
  n : Nat
  c : Nat
def Hd.v (h : Hd) : Value := .slice h.A h.n h.c
def kHd : Kn Hd := kVal Hd.v fun _ => rfl
section
variable {C : Cx} {F : List HA} {st : St} {α : Type} {d : Kn α}
/-- A header reads as a row in whatever memory agrees with h0 on T. -/
def RdF (d : Kn α) (h0 : Hp) (T : Nat → Prop) (ys : List α) (hd : Hd) : Prop := ∀ h' : Hp, (∀ b, T b → b < h0.size → h'[b]? = h0[b]?) → rdRow d h' ys hd.v
theorem RdF.of {e : Nat} {h0 : Hp} {T T' : Nat → Prop} {ys : List α} {v : Value} (ho : owRow e d h0 T ys v) (hT : ∀ b, T b → T' b) : ∃ hd : Hd, v = hd.v ∧ RdF d h0 T' ys hd := by
  obtain ⟨A, c, hv, _⟩ := id ho
  refine ⟨⟨A, ys.length, c⟩, hv, fun h' hh => ?_⟩
  show rdRow d h' ys (.slice A ys.length c)
  rw [← hv]
  exact owRow_read (rowA_holds.1 ((rowA e d ys v).loc (fun b hb hlt => hh b (hT b hb) hlt) (rowA_holds.2 ho)))
/-- The outer block of a row of rows is kept as one's own, what hangs of it is frozen. -/
theorem h_shell {e e' : Nat} {β : Type} {dr : Kn β} {hsz : dr.sz = kHd.sz} {xs : List (List α)} {v : Value}
    (h : ∀ (hs : List Hd) (h0 : Hp) (T : Nat → Prop), hs.length = xs.length → (∀ (i : Nat) (x : List α) (hd : Hd), xs[i]? = some x → hs[i]? = some hd → RdF d h0 T x hd) → Holds C (rowA e (kOr kHd dr hsz) (hs.map .inl) v :: frzA h0 T :: F) st) : Holds C (rowA e (kRow e' d) xs v :: F) st := by
  intro L w1 w a hs ht hr
  obtain ⟨henv, hl, S, hS, S1, S2, h1, h2, hd, hrow, hF⟩ := hs
  obtain ⟨A, c, hv, hc, hm, hcase⟩ := rowA_holds.1 hrow
  rcases hcase with h0 | ⟨g, cells, hA, hg, hblk, hcs, T, hT1, hT2, hel⟩
  · have hx : xs = [] := List.eq_nil_of_length_eq_zero (by omega)
    subst hx
    refine h [] w.heap (fun _ => False) rfl (fun i x hd hx => by simp at hx) L w1 w a ⟨henv, hl, S, hS, S1, S2, h1, h2, hd, rowA_holds.2 ⟨A, c, hv, hc, hm, .inl h0⟩, fun _ => False, S2, fun _ h => h.elim, fun _ h => h, fun _ h => h.elim, fun b hb => hb.elim, hF⟩ ht hr
  · have hex : ∀ i : Fin xs.length, ∃ hd : Hd, cells[i.1]? = some hd.v ∧ RdF d w.heap (fun b => ∃ i, i < xs.length ∧ T i b) xs[i.1] hd := fun i => by
      obtain ⟨cs, ⟨u, hu, ho⟩, hcell⟩ := hel i.1 _ (List.getElem?_eq_getElem i.2)
      subst hu
      obtain ⟨hd, he, hr⟩ := RdF.of (T' := fun b => ∃ i, i < xs.length ∧ T i b) ho (fun b hb => ⟨i.1, i.2, hb⟩)
      refine ⟨hd, ?_, hr⟩
      have := hcell 0 u rfl
      rw [show i.1 * (kRow e' d).sz + 0 = i.1 by show i.1 * 1 + 0 = i.1; omega] at this
      rw [this, he]
    obtain ⟨f, hf⟩ := Classical.axiomOfChoice hex
    have hfl : ∀ (i : Nat) (hd : Hd), (List.ofFn f)[i]? = some hd → ∃ hi : i < xs.length, hd = f ⟨i, hi⟩ := fun i hd hh => by
      have hi : i < xs.length := by simpa using (List.getElem?_eq_some_iff.1 hh).1
      refine ⟨hi, ?_⟩
      rw [List.getElem?_ofFn] at hh
      simpa [hi] using hh.symm
    refine h (List.ofFn f) w.heap (fun b => ∃ i, i < xs.length ∧ T i b) (by simp) (fun i x hd hx hh => ?_) L w1 w a ⟨henv, hl, S, hS, fun b => b = g, fun b => (∃ i, i < xs.length ∧ T i b) ∨ S2 b, fun b hb => h1 b (hb ▸ hg), fun b hb => hb.elim (fun ⟨i, _, hb⟩ => h1 b (hT1 i b hb).1) (fun hb => h2 b hb), fun b hb hb2 => hb2.elim (fun ⟨i, _, h5⟩ => (hT1 i b h5).2 hb) (fun h5 => hd b (hb ▸ hg) h5), ?_, fun b => ∃ i, i < xs.length ∧ T i b, S2, fun b hb => .inl hb, fun b hb => .inr hb, fun b ⟨i, _, hb⟩ hb2 => hd b (hT1 i b hb).1 hb2, fun b hb => ⟨hb, rfl, hb.elim fun i hb => (hS b (h1 b (hT1 i b hb.2).1)).1⟩, hF⟩ ht hr
    · obtain ⟨hi, rfl⟩ := hfl i hd hh
      rw [List.getElem?_eq_getElem hi] at hx
      cases hx
      exact (hf ⟨i, hi⟩).2
    · refine rowA_holds.2 ⟨A, c, by simpa using hv, by simpa using hc, hm, .inr ⟨g, cells, hA, rfl, hblk, hcs, fun _ _ => False, fun _ _ h => h.elim, fun _ _ _ _ h => h.elim, fun i x hx => ?_⟩⟩
      rw [List.getElem?_map] at hx
      cases hh : (List.ofFn f)[i]? with
      | none => rw [hh] at hx; cases hx
      | some hd =>
        rw [hh] at hx
        cases hx
        obtain ⟨hi, rfl⟩ := hfl i hd hh
        refine ⟨[(f ⟨i, hi⟩).v], rfl, fun j u hu => ?_⟩
        have hj : j = 0 := by
          have := (List.getElem?_eq_some_iff.1 hu).1
          simpa using this
        subst hj
        cases hu
        have := (hf ⟨i, hi⟩).1
        rw [show i * (kOr kHd dr hsz).sz + 0 = i by show i * 1 + 0 = i; omega]
        exact this
/-- All elements are of the second kind. -/
theorem h_allr {e : Nat} {α β : Type} {d1 : Kn α} {d2 : Kn β} {hsz : d2.sz = d1.sz} {xs : List β} {v : Value} (h : Holds C (rowA e d2 xs v :: F) st) : Holds C (rowA e (kOr d1 d2 hsz) (xs.map .inr) v :: F) st := by
  refine h_turn (A := [_]) (B := [_]) (fun hp S ho => ?_) h
  obtain ⟨S1, S2, h1, h2, hd, hrow, _⟩ := ho
  obtain ⟨A, c, hv, hc, hm, hcase⟩ := rowA_holds.1 hrow
  refine ⟨S1, S2, h1, h2, hd, rowA_holds.2 ⟨A, c, by simpa using hv, by simpa using hc, hm, hcase.imp id fun ⟨g, cells, hA, hg, hblk, hcs, T, hT1, hT2, hel⟩ => ⟨g, cells, hA, hg, hblk, by rw [hcs]; show c * d1.sz = c * d2.sz; rw [hsz], T, hT1, hT2, fun i x hx => ?_⟩⟩, trivial⟩
  obtain ⟨cs, h5, h6⟩ := hel i (.inr x) (by rw [List.getElem?_map, hx]; rfl)
  exact ⟨cs, h5, fun j u hu => by rw [hsz]; exact h6 j u hu⟩
end
end Go.Proofs.Ytjbbakckckihnaa.Sx
