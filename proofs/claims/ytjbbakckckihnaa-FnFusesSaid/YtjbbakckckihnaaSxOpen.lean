/- Library: a checked symbolic machine over the model's code (part SxOpen). No conditions: each theorem says its own. -/
import Derived.Test.YtjbbakckckihnaaSxMix
import Derived.ChangeArms
import Derived.Deep.Slices
import Derived.WideShapes
/-! What a row's argument reads as, opened into kinds. -/
namespace Go.Proofs.Ytjbbakckckihnaa.Sx
set_option linter.unusedVariables false
set_option linter.unusedSimpArgs false
open Go.ChangeShapes Go.WideShapes Go.Deep Go.RowKit
/-- Whatever reads as data at type t is of the kind d; ok: what is known of it. -/
def Opens {α : Type} (P : Program) (t : TypeId) (d : Kn α) (ok : α → Prop) : Prop :=
  P.cellsOf t = d.sz ∧ ∀ {H : Type} {enc : TypeId × Value → H} {w : World} {base : Nat} {spare : Nat → Bool} {held : Bool} {fuel : Nat} {cs : List Value} {x : DataW H × List MemPlace},
    DataW.trod enc P w base spare held fuel t cs = some x → ∃ a, d.rd w.heap a cs ∧ ok a

/-- The fields from an offset on. -/
def OpensF {α : Type} (P : Program) (fs : List Field) (off : Nat) (d : Kn α) (ok : α → Prop) : Prop :=
  ∀ {H : Type} {enc : TypeId × Value → H} {w : World} {base : Nat} {spare : Nat → Bool} {held : Bool} {fuel : Nat} {cs : List Value},
    cs.length = d.sz → (∀ f ∈ fs, off ≤ f.offset ∧ ∃ y, DataW.trod enc P w base spare held fuel f.type ((cs.drop (f.offset - off)).take (P.cellsOf f.type)) = some y) → ∃ a, d.rd w.heap a cs ∧ ok a

section
variable {P : Program} {t : TypeId}

theorem opens_i64 (ht : P.underlying t = some (.int .i64)) (hc : P.cellsOf t = 1) : Opens P t kI64 (fun n => (Lit.int .i64 n).wf = true) :=
  ⟨hc, fun {H enc w base spare held fuel cs x} h => by
    obtain ⟨n, rfl, _, hw⟩ := DataW.trod_int ht h
    exact ⟨n, rfl, hw⟩⟩
theorem opens_u8 (ht : P.underlying t = some (.int .u8)) (hc : P.cellsOf t = 1) : Opens P t kU8 (fun n => (Lit.int .u8 n).wf = true) :=
  ⟨hc, fun {H enc w base spare held fuel cs x} h => by
    obtain ⟨n, rfl, _, hw⟩ := DataW.trod_int ht h
    exact ⟨n, rfl, hw⟩⟩
theorem opens_u32 (ht : P.underlying t = some (.int .u32)) (hc : P.cellsOf t = 1) : Opens P t kU32 (fun n => (Lit.int .u32 n).wf = true) :=
  ⟨hc, fun {H enc w base spare held fuel cs x} h => by
    obtain ⟨n, rfl, _, hw⟩ := DataW.trod_int ht h
    exact ⟨n, rfl, hw⟩⟩
theorem opens_bool (ht : P.underlying t = some .bool) (hc : P.cellsOf t = 1) : Opens P t kBool (fun _ => True) :=
  ⟨hc, fun {H enc w base spare held fuel cs x} h => by
    obtain ⟨b, rfl, _⟩ := DataW.trod_bool ht h
    exact ⟨b, rfl, trivial⟩⟩
theorem opens_float (ht : P.underlying t = some (.float .f64)) (hc : P.cellsOf t = 1) : Opens P t kFl (fun b => b < 2 ^ 64) :=
  ⟨hc, fun {H enc w base spare held fuel cs x} h => by
    cases fuel with
    | zero => simp [DataW.trod] at h
    | succ n =>
      unfold DataW.trod at h
      simp only [ht] at h
      split at h <;> try contradiction
      all_goals (rename_i heq; simp at heq)
      split at h <;> try contradiction
      rename_i hb
      obtain ⟨rfl, hb⟩ := hb
      subst heq
      exact ⟨_, rfl, by simpa [Lit.wf] using hb⟩⟩

theorem opens_slice {α : Type} {e : TypeId} {d : Kn α} {ok : α → Prop} (E : Nat) (ht : P.underlying t = some (.slice e)) (hc : P.cellsOf t = 1) (he : Opens P e d ok) : Opens P t (kRow E d) (fun l => l.length ≤ 9223372036854775807 ∧ ∀ a ∈ l, ok a) :=
  ⟨hc, fun {H enc w base spare held fuel cs x} h => by
    rcases open_slice ht h with ⟨rfl, _⟩ | ⟨a, len, cap, m, n, D, Pl, rfl, _, hl, hm, hmm, _, hx⟩
    · exact ⟨[], ⟨_, rfl, none, 0, rfl, Nat.le_refl _, fun h => absurd h (Nat.lt_irrefl 0), fun a ha => by cases ha⟩, by simp, by simp⟩
    · have hlm : len ≤ m := by rw [hmm]; split <;> omega
      have hel : ∀ i, i < len → ∃ a' : α, (∃ cs', w.cells? base (a.add (i * P.cellsOf e)) (P.cellsOf e) = some cs' ∧ d.rd w.heap a' cs') ∧ ok a' := by
        intro i hi
        obtain ⟨cs', h1, h2⟩ := hx i (by omega)
        obtain ⟨a', h3, h4⟩ := he.2 h2
        exact ⟨a', ⟨cs', h1, h3⟩, h4⟩
      obtain ⟨l, hlen, hl2⟩ : ∃ l : List α, l.length = len ∧ ∀ i a', l[i]? = some a' → (∃ cs', w.cells? base (a.add (i * P.cellsOf e)) (P.cellsOf e) = some cs' ∧ d.rd w.heap a' cs') ∧ ok a' := by
        clear hl hlm hx h
        clear hmm
        rename_i hxx
        clear hxx
        induction len with
        | zero => exact ⟨[], rfl, fun i a' h => by simp at h⟩
        | succ n ih =>
          obtain ⟨l, hlen, hl2⟩ := ih (fun i hi => hel i (by omega))
          obtain ⟨z, hz⟩ := hel n (by omega)
          refine ⟨l ++ [z], by simp [hlen], fun i a' h => ?_⟩
          rcases Nat.lt_or_ge i l.length with hi | hi
          · rw [List.getElem?_append_left hi] at h
            exact hl2 i a' h
          · rw [List.getElem?_append_right hi] at h
            have hi2 : i - l.length = 0 := by
              rcases Nat.eq_zero_or_pos (i - l.length) with h0 | h0
              · exact h0
              · rw [List.getElem?_eq_none (by simp; omega)] at h
                cases h
            rw [hi2] at h
            obtain rfl : z = a' := by simpa using h
            obtain rfl : i = n := by omega
            exact hz
      refine ⟨l, ⟨_, rfl, some a, cap, by rw [hlen], by omega, fun _ => ⟨a, rfl⟩, fun a2 ha2 j p hj => ?_⟩, by have := hm; unfold maxLen at this; omega, fun z hz => ?_⟩
      · cases ha2
        obtain ⟨⟨cs', h1, h2⟩, _⟩ := hl2 j p hj
        obtain ⟨_, h4, h5⟩ := World.cells?_some h1
        refine ⟨cs', h2, fun i u hu => ?_⟩
        have hi : i < P.cellsOf e := by rw [← h4]; exact (List.getElem?_eq_some_iff.1 hu).1
        have h6 := h5 i hi
        rw [add_add] at h6
        rw [← he.1, ← cell_eq, h6]
        exact hu
      · obtain ⟨j, hj⟩ := List.mem_iff_getElem?.1 hz
        exact (hl2 j z hj).2⟩

theorem opensF_one {α : Type} {f : Field} {off : Nat} {d : Kn α} {ok : α → Prop} (ho : f.offset = off) (h : Opens P f.type d ok) : OpensF P [f] off d ok := by
  intro H enc w base spare held fuel cs hl hf
  obtain ⟨_, y, hy⟩ := hf f (by simp)
  rw [ho, Nat.sub_self, List.drop_zero, List.take_of_length_le (by rw [hl, h.1]; exact Nat.le_refl _)] at hy
  exact h.2 hy

theorem opensF_cons {α β : Type} {f : Field} {fs : List Field} {off off2 : Nat} {a : Kn α} {b : Kn β} {oka : α → Prop} {okb : β → Prop} (ho : f.offset = off) (h2 : off2 = off + a.sz) (h : Opens P f.type a oka) (hb : ∀ g ∈ fs, off2 ≤ g.offset)
    (hr : OpensF P fs off2 b okb) : OpensF P (f :: fs) off (kPair a b) (fun x => oka x.1 ∧ okb x.2) := by
  intro H enc w base spare held fuel cs hl hf
  have hl : cs.length = a.sz + b.sz := hl
  obtain ⟨_, y, hy⟩ := hf f (by simp)
  rw [ho, Nat.sub_self, List.drop_zero, h.1] at hy
  obtain ⟨x0, k0, o0⟩ := h.2 hy
  obtain ⟨x1, k1, o1⟩ := hr (H := H) (enc := enc) (w := w) (base := base) (spare := spare) (held := held) (fuel := fuel) (cs := cs.drop a.sz) (by rw [List.length_drop]; omega) (by
    intro g hg
    obtain ⟨_, z, hz⟩ := hf g (by simp [hg])
    refine ⟨hb g hg, z, ?_⟩
    rw [List.drop_drop, show a.sz + (g.offset - off2) = g.offset - off by have := hb g hg; omega]
    exact hz)
  exact ⟨(x0, x1), ⟨_, _, (List.take_append_drop a.sz cs).symm, k0, k1⟩, o0, o1⟩

theorem opens_struct {α β : Type} {fs : Array Field} {d : Kn α} {ok : α → Prop} {g : β → α} {ok2 : β → Prop} (ht : P.underlying t = some (.struct fs)) (hc : P.cellsOf t = d.sz) (h : OpensF P fs.toList 0 d ok) (hg : ∀ y, ok y → ∃ x, g x = y ∧ ok2 x) :
    Opens P t (kVia g d) ok2 :=
  ⟨hc, fun {H enc w base spare held fuel cs x} hx => by
    obtain ⟨xs, n, _, _, hl, hlen, hf⟩ := DataW.trod_struct ht hx
    obtain ⟨a, k, o⟩ := h (H := H) (enc := enc) (w := w) (base := base) (spare := spare) (held := held) (fuel := n) (cs := cs) (hl.trans hc) (by
      intro f hfm
      obtain ⟨i, hi⟩ := List.mem_iff_getElem?.1 hfm
      have hi2 : fs[i]? = some f := by simpa using hi
      have hlt : i < xs.length := by
        rw [hlen]
        exact (Array.getElem?_eq_some_iff.1 hi2).1
      refine ⟨Nat.zero_le _, xs[i], ?_⟩
      rw [Nat.sub_zero, hf i f hi2, List.getElem?_eq_getElem hlt])
    obtain ⟨z, hz, o2⟩ := hg a o
    exact ⟨z, by show d.rd w.heap (g z) cs; rw [hz]; exact k, o2⟩⟩

/-- A struct as an argument: its cells, and what they say. -/
theorem open_struct_arg {α : Type} {H : Type} {enc : TypeId × Value → H} {w : World} {base base2 : Nat} {spare : Nat → Bool} {held : Bool} {v : Value} {x : DataW H} {ps : List MemPlace} {fs : Array Field} {d : Kn α} {ok : α → Prop} {r : Reach}
    (ht : P.underlying t = some (.struct fs)) (h : Opens P t d ok) (hv : Value.okWide P w r base2 t v) (hd : DataW.Trod enc P w base spare held t v x ps) : ∃ cs a, v = .agg cs ∧ d.rd w.heap a cs.toList ∧ ok a := by
  obtain ⟨cs, rfl, _⟩ := okWide_struct ht hv
  obtain ⟨fuel, hf⟩ := hd
  obtain ⟨a, k, o⟩ := h.2 hf
  exact ⟨cs, a, rfl, by simpa [Value.cells] using k, o⟩

/-- A slice as an argument. -/
theorem open_slice_arg {α : Type} {H : Type} {enc : TypeId × Value → H} {w : World} {base base2 : Nat} {spare : Nat → Bool} {held : Bool} {v : Value} {x : DataW H} {ps : List MemPlace} {e : TypeId} {E : Nat} {d : Kn α} {ok : List α → Prop} {r : Reach}
    (ht : P.underlying t = some (.slice e)) (h : Opens P t (kRow E d) ok) (hv : Value.okWide P w r base2 t v) (hd : DataW.Trod enc P w base spare held t v x ps) : ∃ A c l, v = .slice A (List.length l) c ∧ rdRow d w.heap l (.slice A l.length c) ∧ ok l := by
  obtain ⟨A, len, cap, rfl⟩ := okWide_slice ht hv
  obtain ⟨fuel, hf⟩ := hd
  obtain ⟨l, ⟨u, hu, hr⟩, o⟩ := h.2 hf
  obtain rfl : Value.slice A len cap = u := by simpa [Value.cells] using hu
  obtain ⟨A2, c2, he, _⟩ := id hr
  cases he
  exact ⟨A, cap, l, rfl, hr, o⟩
/-- A struct, as cells. -/
theorem opens_struct0 {α : Type} {fs : Array Field} {d : Kn α} {ok : α → Prop} (ht : P.underlying t = some (.struct fs)) (hc : P.cellsOf t = d.sz) (h : OpensF P fs.toList 0 d ok) : Opens P t d ok :=
  ⟨hc, fun {H enc w base spare held fuel cs x} hx => by
    obtain ⟨xs, n, _, _, hl, hlen, hf⟩ := DataW.trod_struct ht hx
    exact h (H := H) (enc := enc) (w := w) (base := base) (spare := spare) (held := held) (fuel := n) (cs := cs) (hl.trans hc) (by
      intro f hfm
      obtain ⟨i, hi⟩ := List.mem_iff_getElem?.1 hfm
      have hi2 : fs[i]? = some f := by simpa using hi
      have hlt : i < xs.length := by
        rw [hlen]
        exact (Array.getElem?_eq_some_iff.1 hi2).1
      refine ⟨Nat.zero_le _, xs[i], ?_⟩
      rw [Nat.sub_zero, hf i f hi2, List.getElem?_eq_getElem hlt])⟩
theorem Opens.mono {α : Type} {d : Kn α} {ok ok2 : α → Prop} (h : Opens P t d ok) (hk : ∀ x, ok x → ok2 x) : Opens P t d ok2 :=
  ⟨h.1, fun {H enc w base spare held fuel cs x} hx => by
    obtain ⟨a, h1, h2⟩ := h.2 hx
    exact ⟨a, h1, hk a h2⟩⟩
end
end Go.Proofs.Ytjbbakckckihnaa.Sx
