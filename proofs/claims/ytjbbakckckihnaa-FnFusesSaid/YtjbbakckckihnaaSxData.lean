/- Library: a checked symbolic machine over the model's code (part SxData). No conditions: each theorem says its own. -/
import Derived.Test.YtjbbakckckihnaaSxSep
/-! What lies in memory: kinds of elements, rows of them, read or owned. -/
namespace Go.Proofs.Ytjbbakckckihnaa.Sx
set_option linter.unusedVariables false
set_option linter.unusedSimpArgs false
open Go.RowKit
def cellH (h : Hp) (a : Addr) : Option Value :=
  match h[a.block]? with
  | some (.cells c _ _) => if a.spot.isSome then none else c[a.off]?
  | _ => none
theorem cell_eq (w : World) (a : Addr) : w.cell? a = cellH w.heap a := rfl
theorem cellH_ext {h h' : Hp} (hb : ∀ b, b < h.size → h'[b]? = h[b]?) {a : Addr} {v : Value} (hc : cellH h a = some v) : cellH h' a = some v := by
  have hlt : a.block < h.size := by
    unfold cellH at hc
    cases hg : h[a.block]? with
    | none => rw [hg] at hc; cases hc
    | some o => exact (Array.getElem?_eq_some_iff.1 hg).1
  unfold cellH at hc ⊢
  rw [hb _ hlt]
  exact hc
/-- A kind of element: how it is read out of cells, and how it is owned. -/
structure Kn (α : Type) where
  sz : Nat
  rd : Hp → α → List Value → Prop
  ow : Hp → (Nat → Prop) → α → List Value → Prop
  len : ∀ {h : Hp} {x : α} {cs : List Value}, rd h x cs → cs.length = sz
  one : ∀ {h : Hp} {x : α} {cs : List Value}, rd h x cs → ∀ u ∈ cs, u.oneCell' = true
  ext : ∀ {h h' : Hp} {x : α} {cs : List Value}, (∀ b, b < h.size → h'[b]? = h[b]?) → rd h x cs → rd h' x cs
  read : ∀ {h : Hp} {S : Nat → Prop} {x : α} {cs : List Value}, ow h S x cs → rd h x cs
  mono : ∀ {h : Hp} {S S' : Nat → Prop} {x : α} {cs : List Value}, (∀ b, S b → S' b) → ow h S x cs → ow h S' x cs
  loc : ∀ {h h' : Hp} {S : Nat → Prop} {x : α} {cs : List Value}, (∀ b, S b → b < h.size → h'[b]? = h[b]?) → ow h S x cs → ow h' S x cs
def kVal {α : Type} (f : α → Value) (hf : ∀ x, (f x).oneCell' = true) : Kn α where
  sz := 1
  rd _ x cs := cs = [f x]
  ow _ _ x cs := cs = [f x]
  len h := by rw [h]; rfl
  one h u hu := by rw [h] at hu; rw [List.mem_singleton.1 hu]; exact hf _
  ext _ h := h
  read h := h
  mono _ h := h
  loc _ h := h
def kI64 : Kn Int := kVal (Value.int .i64) fun _ => rfl
def kU8 : Kn Int := kVal (Value.int .u8) fun _ => rfl
def kU32 : Kn Int := kVal (Value.int .u32) fun _ => rfl
def kBool : Kn Bool := kVal Value.bool fun _ => rfl
def kFl : Kn Nat := kVal (Value.float .f64) fun _ => rfl
def kPair {α β : Type} (d1 : Kn α) (d2 : Kn β) : Kn (α × β) where
  sz := d1.sz + d2.sz
  rd h x cs := ∃ c1 c2, cs = c1 ++ c2 ∧ d1.rd h x.1 c1 ∧ d2.rd h x.2 c2
  ow h S x cs := ∃ c1 c2, cs = c1 ++ c2 ∧ ∃ S1 S2 : Nat → Prop, (∀ b, S1 b → S b) ∧ (∀ b, S2 b → S b) ∧ (∀ b, S1 b → ¬ S2 b) ∧ d1.ow h S1 x.1 c1 ∧ d2.ow h S2 x.2 c2
  len := fun ⟨c1, c2, e, h1, h2⟩ => by rw [e, List.length_append, d1.len h1, d2.len h2]
  one := fun ⟨c1, c2, e, h1, h2⟩ u hu => by
    rw [e] at hu
    exact (List.mem_append.1 hu).elim (d1.one h1 u) (d2.one h2 u)
  ext hb := fun ⟨c1, c2, e, h1, h2⟩ => ⟨c1, c2, e, d1.ext hb h1, d2.ext hb h2⟩
  read := fun ⟨c1, c2, e, S1, S2, _, _, _, h1, h2⟩ => ⟨c1, c2, e, d1.read h1, d2.read h2⟩
  mono hs := fun ⟨c1, c2, e, S1, S2, a1, a2, a3, h1, h2⟩ => ⟨c1, c2, e, S1, S2, fun b hb => hs b (a1 b hb), fun b hb => hs b (a2 b hb), a3, h1, h2⟩
  loc hs := fun ⟨c1, c2, e, S1, S2, a1, a2, a3, h1, h2⟩ => ⟨c1, c2, e, S1, S2, a1, a2, a3, d1.loc (fun b hb => hs b (a1 b hb)) h1, d2.loc (fun b hb => hs b (a2 b hb)) h2⟩
def kVia {α β : Type} (f : α → β) (d : Kn β) : Kn α where
  sz := d.sz
  rd h x cs := d.rd h (f x) cs
  ow h S x cs := d.ow h S (f x) cs
  len := d.len
  one := d.one
  ext := d.ext
  read := d.read
  mono := d.mono
  loc := d.loc
/-- A row that is read. -/
def rdRow {α : Type} (d : Kn α) (h : Hp) (xs : List α) (v : Value) : Prop :=
  ∃ (A : Option Addr) (c : Nat), v = .slice A xs.length c ∧ xs.length ≤ c ∧ (0 < xs.length → ∃ a, A = some a) ∧
    ∀ a, A = some a → ∀ i x, xs[i]? = some x → ∃ cs, d.rd h x cs ∧ ∀ j u, cs[j]? = some u → cellH h (a.add (i * d.sz + j)) = some u
/-- A row of one's own: a block of type e, and what hangs of it, each element's apart. -/
def owRow {α : Type} (e : Nat) (d : Kn α) (h : Hp) (S : Nat → Prop) (xs : List α) (v : Value) : Prop :=
  ∃ (A : Option Addr) (c : Nat), v = .slice A xs.length c ∧ xs.length ≤ c ∧ c ≤ maxLen ∧
    (c = 0 ∨ ∃ (g : Nat) (cells : Array Value), A = some ⟨g, 0, none⟩ ∧ S g ∧ h[g]? = some (.cells cells e (0, 0)) ∧ cells.size = c * d.sz ∧
      ∃ T : Nat → Nat → Prop, (∀ i b, T i b → S b ∧ b ≠ g) ∧ (∀ i j b, i ≠ j → T i b → ¬ T j b) ∧
        ∀ i x, xs[i]? = some x → ∃ cs, d.ow h (T i) x cs ∧ ∀ j u, cs[j]? = some u → cells[i * d.sz + j]? = some u)
theorem owRow_read {α : Type} {e : Nat} {d : Kn α} {h : Hp} {S : Nat → Prop} {xs : List α} {v : Value} (ho : owRow e d h S xs v) : rdRow d h xs v := by
  obtain ⟨A, c, hv, hc, _, h1⟩ := ho
  refine ⟨A, c, hv, hc, ?_, ?_⟩
  · intro hn
    rcases h1 with h0 | ⟨g, _, hA, _⟩
    · omega
    · exact ⟨_, hA⟩
  · intro a ha i x hx
    rcases h1 with h0 | ⟨g, cells, hA, _, hg, _, T, _, _, hel⟩
    · have := (List.getElem?_eq_some_iff.1 hx).1
      omega
    · rw [hA] at ha
      cases ha
      obtain ⟨cs, ho, hcs⟩ := hel i x hx
      refine ⟨cs, d.read ho, fun j u hu => ?_⟩
      rw [add_at]
      simp only [cellH, hg, Option.isSome_none, Bool.false_eq_true, if_false, Nat.zero_add]
      exact hcs j u hu
theorem rdRow_ext {α : Type} {d : Kn α} {h h' : Hp} {xs : List α} {v : Value} (hb : ∀ b, b < h.size → h'[b]? = h[b]?) (hr : rdRow d h xs v) : rdRow d h' xs v := by
  obtain ⟨A, c, e, h1, h2, h3⟩ := hr
  refine ⟨A, c, e, h1, h2, fun a ha i x hx => ?_⟩
  obtain ⟨cs, h4, h5⟩ := h3 a ha i x hx
  exact ⟨cs, d.ext hb h4, fun j u hu => cellH_ext hb (h5 j u hu)⟩
def kRow {α : Type} (e : Nat) (d : Kn α) : Kn (List α) where
  sz := 1
  rd h xs cs := ∃ v, cs = [v] ∧ rdRow d h xs v
  ow h S xs cs := ∃ v, cs = [v] ∧ owRow e d h S xs v
  len := fun ⟨v, hv, _⟩ => by rw [hv]; rfl
  one := fun ⟨v, hv, A, c, e, _⟩ u hu => by
    rw [hv] at hu
    rw [List.mem_singleton.1 hu, e]
    rfl
  ext hb := fun ⟨v, hv, A, c, e, h1, h2, h3⟩ => ⟨v, hv, A, c, e, h1, h2, fun a ha i x hx => by
    obtain ⟨cs, h4, h5⟩ := h3 a ha i x hx
    exact ⟨cs, d.ext hb h4, fun j u hu => cellH_ext hb (h5 j u hu)⟩⟩
  read := fun ⟨v, hv, h⟩ => ⟨v, hv, owRow_read h⟩
  mono hs := fun ⟨v, hv, A, c, e, h1, h2, h3⟩ => ⟨v, hv, A, c, e, h1, h2, h3.imp id fun ⟨g, cells, hA, hg, h4, h5, T, h6, h7, h8⟩ => ⟨g, cells, hA, hs g hg, h4, h5, T, fun i b hb => ⟨hs b (h6 i b hb).1, (h6 i b hb).2⟩, h7, h8⟩⟩
  loc hs := fun ⟨v, hv, A, c, e, h1, h2, h3⟩ => ⟨v, hv, A, c, e, h1, h2, h3.imp id fun ⟨g, cells, hA, hg, h4, h5, T, h6, h7, h8⟩ =>
    ⟨g, cells, hA, hg, (hs g hg (Array.getElem?_eq_some_iff.1 h4).1).trans h4, h5, T, h6, h7, fun i x hx => by
      obtain ⟨cs, h9, h10⟩ := h8 i x hx
      exact ⟨cs, d.loc (fun b hb => hs b (h6 i b hb).1) h9, h10⟩⟩⟩
/-- An element in cells that lie somewhere (in registers, in a block of the list). -/
def elA {α : Type} (d : Kn α) (x : α) (cs : List Value) : HA where
  holds h S := d.ow h S x cs
  mono := d.mono
  loc := d.loc
def rowA {α : Type} (e : Nat) (d : Kn α) (xs : List α) (v : Value) : HA := elA (kRow e d) xs [v]
section
variable {α β : Type} {e : Nat} {d : Kn α} {h : Hp} {S : Nat → Prop} {xs : List α} {v : Value}
theorem rowA_holds : (rowA e d xs v).holds h S ↔ owRow e d h S xs v :=
  ⟨fun ⟨u, hu, ho⟩ => by cases hu; exact ho, fun ho => ⟨v, rfl, ho⟩⟩
theorem owRow_nil : owRow e d h S [] (.slice none 0 0) := ⟨none, 0, rfl, Nat.le_refl _, Nat.zero_le _, .inl rfl⟩
theorem owRow_empty (A : Option Addr) : owRow e d h S [] (.slice A 0 0) := ⟨A, 0, rfl, Nat.le_refl _, Nat.zero_le _, .inl rfl⟩
theorem rowA_nil : (rowA e d [] (.slice none 0 0)).holds h S := rowA_holds.2 owRow_nil
/-- Two elements side by side are one. -/
theorem el_pair {d2 : Kn β} {x : α} {y : β} {c1 c2 : List Value} (ho : sepL [elA d x c1, elA d2 y c2] h S) : sepL [elA (kPair d d2) (x, y) (c1 ++ c2)] h S := by
  obtain ⟨S1, S2, h1, h2, hd, hA, S3, S4, h3, h4, _, hB, _⟩ := ho
  exact ⟨S, fun _ => False, fun _ hb => hb, fun _ hb => hb.elim, fun _ _ hb => hb, ⟨c1, c2, rfl, S1, S3, h1, fun b hb => h2 b (h3 b hb), fun b hb hc => hd b hb (h3 b hc), hA, hB⟩, trivial⟩
theorem el_unpair {d2 : Kn β} {x : α × β} {cs : List Value} (ho : (elA (kPair d d2) x cs).holds h S) : ∃ c1 c2, cs = c1 ++ c2 ∧ sepL [elA d x.1 c1, elA d2 x.2 c2] h S := by
  obtain ⟨c1, c2, hc, S1, S2, h1, h2, hd, hA, hB⟩ := ho
  exact ⟨c1, c2, hc, S1, S2, h1, h2, hd, hA, S2, fun _ => False, fun _ hb => hb, fun _ hb => hb.elim, fun _ _ hb => hb, hB, trivial⟩
theorem sepL_one {A : HA} (hs : sepL [A] h S) : A.holds h S := by
  obtain ⟨S1, S2, h1, _, _, hA, _⟩ := hs
  exact A.mono h1 hA
theorem own_g {A : Option Addr} {n c : Nat} (ho : owRow e d h S xs (.slice A n c)) (hn : 0 < n) : ∃ g, A = some ⟨g, 0, none⟩ := by
  obtain ⟨A', c', hv, hle, _, hc⟩ := ho
  cases hv
  rcases hc with h0 | ⟨g, _, hA, _⟩
  · omega
  · exact ⟨g, hA⟩
theorem own_len {A : Option Addr} {n c : Nat} (ho : owRow e d h S xs (.slice A n c)) : n = xs.length := by
  obtain ⟨A', c', hv, _⟩ := ho
  cases hv
  rfl
theorem row_el {u : Value} (hs : sepL [rowA e d xs u] h S) : (kRow e d).ow h S xs [u] := sepL_one hs
theorem rd_row {xs : List (List α)} {a : Addr} {n c : Nat} (hr : rdRow (kRow e d) h xs (.slice (some a) n c)) {i : Nat} (hi : i < xs.length) :
    ∃ A c, cellH h (a.add (i * 1)) = some (.slice A xs[i].length c) ∧ rdRow d h xs[i] (.slice A xs[i].length c) := by
  obtain ⟨A, c', hv, _, _, hel⟩ := hr
  cases hv
  obtain ⟨cs, ⟨v, hcs, hrow⟩, hcell⟩ := hel a rfl i xs[i] (List.getElem?_eq_getElem hi)
  subst hcs
  obtain ⟨B, cb, hv, h1⟩ := hrow
  subst hv
  exact ⟨B, cb, by have := hcell 0 _ rfl; exact this, B, cb, rfl, h1⟩
end
theorem h_swap {C : Cx} {F : List HA} {A B : HA} {st : St} (h : Holds C (B :: A :: F) st) : Holds C (A :: B :: F) st :=
  h_conseq fun _ _ hs => ⟨_, hs.perm (List.Perm.swap B A F), h⟩
theorem h_rot3 {C : Cx} {F : List HA} {A B D : HA} {st : St} (h : Holds C (D :: A :: B :: F) st) : Holds C (A :: B :: D :: F) st :=
  h_conseq fun _ _ hs => ⟨_, hs.bring 2 rfl, h⟩
theorem h_rot4 {C : Cx} {F : List HA} {A B D E : HA} {st : St} (h : Holds C (E :: A :: B :: D :: F) st) : Holds C (A :: B :: D :: E :: F) st :=
  h_conseq fun _ _ hs => ⟨_, hs.bring 3 rfl, h⟩
theorem h_drop {C : Cx} {F : List HA} {A : HA} {st : St} (h : Holds C F st) : Holds C (A :: F) st :=
  h_conseq fun _ _ hs => ⟨_, hs.drop, h⟩
end Go.Proofs.Ytjbbakckckihnaa.Sx
