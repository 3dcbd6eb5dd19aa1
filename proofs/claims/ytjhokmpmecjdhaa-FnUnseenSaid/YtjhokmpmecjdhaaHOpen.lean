/- What a row's argument reads as, opened into the kinds of the printed words, kind by kind: whole numbers, bools, floats, slices, structs. No program stands in it. -/
import Derived.ChangeArms
import Derived.Deep.Slices
import Derived.WideShapes
import Derived.Test.YtjhokmpmecjdhaaWWords
namespace Go.Proofs.Ytjhokmpmecjdhaa.HOpen
open Go.ChangeShapes Go.WideShapes Go.Deep Go.RowKit Go.Proofs.YtjhokmpmecjdhaaW.PrintWords

/-- A float in a cell: its bits. -/
def kfloat : Kd Nat := Kd.scalar (Value.float .f64) (fun _ => rfl)

/-- Whatever reads as data at type t is of the kind d; ok: what is known of it. -/
def Opens {α : Type} (P : Program) (t : TypeId) (d : Kd α) (ok : α → Prop) : Prop :=
  P.cellsOf t = d.sz ∧ ∀ {H : Type} {enc : TypeId × Value → H} {w : World} {base : Nat} {spare : Nat → Bool} {held : Bool} {fuel : Nat} {cs : List Value} {x : DataW H × List MemPlace},
    DataW.trod enc P w base spare held fuel t cs = some x → ∃ a, d.K w a cs ∧ ok a

/-- The fields from an offset on. -/
def OpensF {α : Type} (P : Program) (fs : List Field) (off : Nat) (d : Kd α) (ok : α → Prop) : Prop :=
  ∀ {H : Type} {enc : TypeId × Value → H} {w : World} {base : Nat} {spare : Nat → Bool} {held : Bool} {fuel : Nat} {cs : List Value},
    cs.length = d.sz → (∀ f ∈ fs, off ≤ f.offset ∧ ∃ y, DataW.trod enc P w base spare held fuel f.type ((cs.drop (f.offset - off)).take (P.cellsOf f.type)) = some y) → ∃ a, d.K w a cs ∧ ok a

section
variable {P : Program} {t : TypeId}

theorem opens_int {k : IntKind} (ht : P.underlying t = some (.int k)) (hc : P.cellsOf t = 1) : Opens P t (Kd.int k) (fun n => (Lit.int k n).wf = true) :=
  ⟨hc, fun {H enc w base spare held fuel cs x} h => by
    obtain ⟨n, rfl, _, hw⟩ := DataW.trod_int ht h
    exact ⟨n, rfl, hw⟩⟩

theorem opens_bool (ht : P.underlying t = some .bool) (hc : P.cellsOf t = 1) : Opens P t Kd.bool (fun _ => True) :=
  ⟨hc, fun {H enc w base spare held fuel cs x} h => by
    obtain ⟨b, rfl, _⟩ := DataW.trod_bool ht h
    exact ⟨b, rfl, trivial⟩⟩

theorem opens_float (ht : P.underlying t = some (.float .f64)) (hc : P.cellsOf t = 1) : Opens P t kfloat (fun b => b < 2 ^ 64) :=
  ⟨hc, fun {H enc w base spare held fuel cs x} h => by
    cases fuel with
    | zero => simp [DataW.trod] at h
    | succ n =>
      unfold DataW.trod at h
      simp only [ht] at h
      split at h <;> try contradiction
      all_goals (rename_i heq; simp at heq)
      split at h <;> try contradiction
      rename_i hb
      obtain ⟨rfl, hb⟩ := hb
      subst heq
      exact ⟨_, rfl, by simpa [Lit.wf] using hb⟩⟩

theorem opens_slice {α : Type} {e : TypeId} {d : Kd α} {ok : α → Prop} (E : Nat) (ht : P.underlying t = some (.slice e)) (hc : P.cellsOf t = 1) (he : Opens P e d ok) : Opens P t (Kd.slice E d) (fun l => l.length ≤ 9223372036854775807 ∧ ∀ a ∈ l, ok a) :=
  ⟨hc, fun {H enc w base spare held fuel cs x} h => by
    rcases open_slice ht h with ⟨rfl, _⟩ | ⟨a, len, cap, m, n, D, Pl, rfl, _, hl, hm, hmm, _, hx⟩
    · exact ⟨[], ⟨none, 0, rfl, by simp, rfl, by simp, fun h => absurd h (by simp)⟩, by simp, by simp⟩
    · have hlm : len ≤ m := by rw [hmm]; split <;> omega
      have hel : ∀ i, i < len → ∃ a' : α, (∃ cs', w.cells? base (a.add (i * P.cellsOf e)) (P.cellsOf e) = some cs' ∧ d.K w a' cs') ∧ ok a' := by
        intro i hi
        obtain ⟨cs', h1, h2⟩ := hx i (by omega)
        obtain ⟨a', h3, h4⟩ := he.2 h2
        exact ⟨a', ⟨cs', h1, h3⟩, h4⟩
      obtain ⟨l, hlen, hl2⟩ : ∃ l : List α, l.length = len ∧ ∀ i a', l[i]? = some a' → (∃ cs', w.cells? base (a.add (i * P.cellsOf e)) (P.cellsOf e) = some cs' ∧ d.K w a' cs') ∧ ok a' := by
        clear hl hlm hx h
        clear hmm
        rename_i hxx
        clear hxx
        induction len with
        | zero => exact ⟨[], rfl, fun i a' h => by simp at h⟩
        | succ n ih =>
          obtain ⟨l, hlen, hl2⟩ := ih (fun i hi => hel i (by omega))
          obtain ⟨z, hz⟩ := hel n (by omega)
          refine ⟨l ++ [z], by simp [hlen], fun i a' h => ?_⟩
          rcases Nat.lt_or_ge i l.length with hi | hi
          · rw [List.getElem?_append_left hi] at h
            exact hl2 i a' h
          · rw [List.getElem?_append_right hi] at h
            have hi2 : i - l.length = 0 := by
              rcases Nat.eq_zero_or_pos (i - l.length) with h0 | h0
              · exact h0
              · rw [List.getElem?_eq_none (by simp; omega)] at h
                cases h
            rw [hi2] at h
            obtain rfl : z = a' := by simpa using h
            obtain rfl : i = n := by omega
            exact hz
      refine ⟨l, ⟨some a, cap, by rw [hlen], by omega, rfl, by have := hm; unfold maxLen at this; omega, fun _ => ⟨a, rfl, fun j p hj => ?_⟩⟩, by have := hm; unfold maxLen at this; omega, fun z hz => ?_⟩
      · obtain ⟨⟨cs', h1, h2⟩, _⟩ := hl2 j p hj
        obtain ⟨_, h4, h5⟩ := World.cells?_some h1
        refine ⟨cs', by rw [h4, he.1], h2, fun i u hu => ?_⟩
        have hi : i < P.cellsOf e := by rw [← h4]; exact (List.getElem?_eq_some_iff.1 hu).1
        have h6 := h5 i hi
        rw [Go.Deep.add_add] at h6
        rw [← he.1, h6]
        exact hu
      · obtain ⟨j, hj⟩ := List.mem_iff_getElem?.1 hz
        exact (hl2 j z hj).2⟩

theorem opensF_one {α : Type} {f : Field} {off : Nat} {d : Kd α} {ok : α → Prop} (ho : f.offset = off) (h : Opens P f.type d ok) : OpensF P [f] off d ok := by
  intro H enc w base spare held fuel cs hl hf
  obtain ⟨_, y, hy⟩ := hf f (by simp)
  rw [ho, Nat.sub_self, List.drop_zero, List.take_of_length_le (by rw [hl, h.1]; exact Nat.le_refl _)] at hy
  exact h.2 hy

theorem opensF_cons {α β : Type} {f : Field} {fs : List Field} {off off2 : Nat} {a : Kd α} {b : Kd β} {oka : α → Prop} {okb : β → Prop} (ho : f.offset = off) (h2 : off2 = off + a.sz) (h : Opens P f.type a oka) (hb : ∀ g ∈ fs, off2 ≤ g.offset)
    (hr : OpensF P fs off2 b okb) : OpensF P (f :: fs) off (Kd.pair a b) (fun x => oka x.1 ∧ okb x.2) := by
  intro H enc w base spare held fuel cs hl hf
  have hl : cs.length = a.sz + b.sz := hl
  obtain ⟨_, y, hy⟩ := hf f (by simp)
  rw [ho, Nat.sub_self, List.drop_zero, h.1] at hy
  obtain ⟨x0, k0, o0⟩ := h.2 hy
  obtain ⟨x1, k1, o1⟩ := hr (H := H) (enc := enc) (w := w) (base := base) (spare := spare) (held := held) (fuel := fuel) (cs := cs.drop a.sz) (by rw [List.length_drop]; omega) (by
    intro g hg
    obtain ⟨_, z, hz⟩ := hf g (by simp [hg])
    refine ⟨hb g hg, z, ?_⟩
    rw [List.drop_drop, show a.sz + (g.offset - off2) = g.offset - off by have := hb g hg; omega]
    exact hz)
  exact ⟨(x0, x1), ⟨_, _, (List.take_append_drop a.sz cs).symm, k0, k1⟩, o0, o1⟩

theorem opens_struct {α β : Type} {fs : Array Field} {d : Kd α} {ok : α → Prop} {g : β → α} {ok2 : β → Prop} (ht : P.underlying t = some (.struct fs)) (hc : P.cellsOf t = d.sz) (h : OpensF P fs.toList 0 d ok) (hg : ∀ y, ok y → ∃ x, g x = y ∧ ok2 x) :
    Opens P t (Kd.iso d g) ok2 :=
  ⟨hc, fun {H enc w base spare held fuel cs x} hx => by
    obtain ⟨xs, n, _, _, hl, hlen, hf⟩ := DataW.trod_struct ht hx
    obtain ⟨a, k, o⟩ := h (H := H) (enc := enc) (w := w) (base := base) (spare := spare) (held := held) (fuel := n) (cs := cs) (hl.trans hc) (by
      intro f hfm
      obtain ⟨i, hi⟩ := List.mem_iff_getElem?.1 hfm
      have hi2 : fs[i]? = some f := by simpa using hi
      have hlt : i < xs.length := by
        rw [hlen]
        exact (Array.getElem?_eq_some_iff.1 hi2).1
      refine ⟨Nat.zero_le _, xs[i], ?_⟩
      rw [Nat.sub_zero, hf i f hi2, List.getElem?_eq_getElem hlt])
    obtain ⟨z, hz, o2⟩ := hg a o
    exact ⟨z, by show d.K w (g z) cs; rw [hz]; exact k, o2⟩⟩

/-- A struct as an argument: its cells, and what they say. -/
theorem open_struct_arg {α : Type} {H : Type} {enc : TypeId × Value → H} {w : World} {base base2 : Nat} {spare : Nat → Bool} {held : Bool} {v : Value} {x : DataW H} {ps : List MemPlace} {fs : Array Field} {d : Kd α} {ok : α → Prop} {r : Reach}
    (ht : P.underlying t = some (.struct fs)) (h : Opens P t d ok) (hv : Value.okWide P w r base2 t v) (hd : DataW.Trod enc P w base spare held t v x ps) : ∃ cs a, v = .agg cs ∧ d.K w a cs.toList ∧ ok a := by
  obtain ⟨cs, rfl, _⟩ := okWide_struct ht hv
  obtain ⟨fuel, hf⟩ := hd
  obtain ⟨a, k, o⟩ := h.2 hf
  exact ⟨cs, a, rfl, by simpa [Value.cells] using k, o⟩

/-- A slice as an argument. -/
theorem open_slice_arg {α : Type} {H : Type} {enc : TypeId × Value → H} {w : World} {base base2 : Nat} {spare : Nat → Bool} {held : Bool} {v : Value} {x : DataW H} {ps : List MemPlace} {e : TypeId} {E : Nat} {d : Kd α} {ok : List α → Prop} {r : Reach}
    (ht : P.underlying t = some (.slice e)) (h : Opens P t (Kd.slice E d) ok) (hv : Value.okWide P w r base2 t v) (hd : DataW.Trod enc P w base spare held t v x ps) : ∃ A c l, v = .slice A (List.length l) c ∧ l.length ≤ c ∧ d.C w A l.length l ∧ ok l := by
  obtain ⟨A, len, cap, rfl⟩ := okWide_slice ht hv
  obtain ⟨fuel, hf⟩ := hd
  obtain ⟨l, ⟨A2, c2, he, hl, hC⟩, o⟩ := h.2 hf
  obtain ⟨rfl, rfl, rfl⟩ : A = A2 ∧ len = l.length ∧ cap = c2 := by simpa [Value.cells] using he
  exact ⟨A, cap, l, rfl, hl, hC, o⟩
end
end Go.Proofs.Ytjhokmpmecjdhaa.HOpen
