/- Library: a checked symbolic machine over the model's code (part SxRows). No conditions: each theorem says its own. -/
import Derived.Test.YtjbbakckckihnaaSxData
import Derived.Laws.OwnMore
/-! Rows of one's own: an append, a store, a new one. -/
namespace Go.Proofs.Ytjbbakckckihnaa.Sx
set_option linter.unusedVariables false
set_option linter.unusedSimpArgs false
open Go.RowKit
section
variable {α : Type} {d : Kn α} {h h' : Hp} {S S' : Nat → Prop} {xs ys : List α} {e : Nat} {v : Value}
/-- Elements that lie in cells, each owned apart. -/
def els (d : Kn α) (h : Hp) (S : Nat → Prop) (xs : List α) (c : Nat → Option Value) : Prop :=
  ∃ T : Nat → Nat → Prop, (∀ i b, T i b → S b) ∧ (∀ i j b, i ≠ j → T i b → ¬ T j b) ∧
    ∀ i x, xs[i]? = some x → ∃ cs, d.ow h (T i) x cs ∧ ∀ j u, cs[j]? = some u → c (i * d.sz + j) = some u
theorem owRow_iff : owRow e d h S xs v ↔ ∃ (A : Option Addr) (c : Nat), v = .slice A xs.length c ∧ xs.length ≤ c ∧ c ≤ maxLen ∧
    (c = 0 ∨ ∃ (g : Nat) (cells : Array Value), A = some ⟨g, 0, none⟩ ∧ S g ∧ h[g]? = some (.cells cells e (0, 0)) ∧ cells.size = c * d.sz ∧ els d h (fun b => S b ∧ b ≠ g) xs (fun k => cells[k]?)) := Iff.rfl
theorem els_loc {c : Nat → Option Value} (hs : ∀ b, S b → b < h.size → h'[b]? = h[b]?) (ho : els d h S xs c) : els d h' S xs c := by
  obtain ⟨T, h1, h2, h3⟩ := ho
  refine ⟨T, h1, h2, fun i x hx => ?_⟩
  obtain ⟨cs, h4, h5⟩ := h3 i x hx
  exact ⟨cs, d.loc (fun b hb => hs b (h1 i b hb)) h4, h5⟩
theorem els_mono {c : Nat → Option Value} (hs : ∀ b, S b → S' b) (ho : els d h S xs c) : els d h S' xs c := by
  obtain ⟨T, h1, h2, h3⟩ := ho
  exact ⟨T, fun i b hb => hs b (h1 i b hb), h2, h3⟩
theorem els_cells {c c' : Nat → Option Value} (ho : els d h S xs c) (hc : ∀ k, k < xs.length * d.sz → ∀ u, c k = some u → c' k = some u) : els d h S xs c' := by
  obtain ⟨T, h1, h2, h3⟩ := ho
  refine ⟨T, h1, h2, fun i x hx => ?_⟩
  obtain ⟨cs, h4, h5⟩ := h3 i x hx
  refine ⟨cs, h4, fun j u hu => hc _ ?_ u (h5 j u hu)⟩
  have hi : i < xs.length := (List.getElem?_eq_some_iff.1 hx).1
  have hj : j < d.sz := by rw [← d.len (d.read h4)]; exact (List.getElem?_eq_some_iff.1 hu).1
  have : (i + 1) * d.sz ≤ xs.length * d.sz := Nat.mul_le_mul_right _ hi
  rw [Nat.add_mul] at this
  omega
theorem els_nil {c : Nat → Option Value} : els d h S [] c := ⟨fun _ _ => False, fun _ _ hb => hb.elim, fun _ _ _ _ hb => hb.elim, fun i x hx => by simp at hx⟩
theorem els_one {x : α} {cs : List Value} {c : Nat → Option Value} (ho : d.ow h S x cs) (hc : ∀ j u, cs[j]? = some u → c j = some u) : els d h S [x] c := by
  refine ⟨fun i b => i = 0 ∧ S b, fun i b hb => hb.2, fun i j b hne hi hj => hne (hi.1.trans hj.1.symm), fun i y hy => ?_⟩
  obtain rfl : i = 0 := by
    have := (List.getElem?_eq_some_iff.1 hy).1
    simpa using this
  simp at hy
  subst hy
  exact ⟨cs, d.mono (fun b hb => ⟨rfl, hb⟩) ho, fun j u hu => by rw [Nat.zero_mul, Nat.zero_add]; exact hc j u hu⟩
theorem els_append {c1 c2 : Nat → Option Value} (h1 : els d h S xs c1) (h2 : els d h S' ys c2) (hd : ∀ b, S b → ¬ S' b) {c : Nat → Option Value}
    (hc1 : ∀ k, k < xs.length * d.sz → ∀ u, c1 k = some u → c k = some u) (hc2 : ∀ k, k < ys.length * d.sz → ∀ u, c2 k = some u → c (xs.length * d.sz + k) = some u) : els d h (fun b => S b ∨ S' b) (xs ++ ys) c := by
  obtain ⟨T1, a1, a2, a3⟩ := els_cells h1 hc1
  obtain ⟨T2, b1, b2, b3⟩ := els_cells (c' := fun k => c (xs.length * d.sz + k)) h2 hc2
  refine ⟨fun i b => if i < xs.length then T1 i b else T2 (i - xs.length) b, fun i b hb => ?_, fun i j b hne hi hj => ?_, fun i x hx => ?_⟩
  · by_cases hi : i < xs.length
    · simp only [hi, if_true] at hb; exact .inl (a1 i b hb)
    · simp only [hi, if_false] at hb; exact .inr (b1 _ b hb)
  · by_cases h3 : i < xs.length <;> by_cases h4 : j < xs.length <;> simp only [h3, h4, if_true, if_false] at hi hj
    · exact a2 i j b hne hi hj
    · exact hd b (a1 i b hi) (b1 _ b hj)
    · exact hd b (a1 j b hj) (b1 _ b hi)
    · exact b2 _ _ b (by omega) hi hj
  · by_cases hi : i < xs.length
    · rw [List.getElem?_append_left hi] at hx
      obtain ⟨cs, h3, h4⟩ := a3 i x hx
      exact ⟨cs, by simpa only [hi, if_true] using h3, h4⟩
    · rw [List.getElem?_append_right (by omega)] at hx
      obtain ⟨cs, h3, h4⟩ := b3 _ x hx
      refine ⟨cs, by simpa only [hi, if_false] using h3, fun j u hu => ?_⟩
      have := h4 j u hu
      rw [show i * d.sz + j = xs.length * d.sz + ((i - xs.length) * d.sz + j) by
        rw [← Nat.add_assoc, ← Nat.add_mul]
        congr 2
        omega]
      exact this
/-- What an append of elements to a row of one's own leaves. -/
structure Grew (w w' : World) (S : Nat → Prop) : Prop where
  os : w'.os = w.os
  tape : w'.tape = w.tape
  output : w'.output = w.output
  size : w.heap.size ≤ w'.heap.size
  keep : ∀ b, b < w.heap.size → ¬ S b → w'.heap[b]? = w.heap[b]?
theorem append_run {P : Program} {w : World} {t ty : Nat} {i : TypeInfo} {z : Value} (ht : P.underlying t = some (.slice e)) (hi : P.info? e = some i) (hz : i.zero = some z) (hsz : i.size = d.sz) (hzs : z.cells.size = d.sz) (h0 : 0 < d.sz)
    (ho : owRow e d w.heap S xs v) (hS : ∀ b, S b → b < w.heap.size) (hS' : ∀ b, S' b → b < w.heap.size) (hd : ∀ b, S b → ¬ S' b)
    (a : Addr) (c : Nat) (news : List Value) (hl : news.length = ys.length * d.sz) (hnews : ∀ j u, news[j]? = some u → w.cell? (a.add j) = some u) (h1 : ∀ u ∈ news, u.oneCell' = true)
    (hys : els d w.heap S' ys (fun k => news[k]?)) (h63 : xs.length + ys.length ≤ maxLen) (hbytes : (xs.length + ys.length) * i.bytes ≤ 140737488355328) :
    ∃ v' w', (Builtin.append_ #[t, t] ty #[v, .slice (some a) ys.length c]).run P w = .ok v' w' ∧ Grew w w' S ∧ owRow e d w'.heap (fun b => (S b ∨ S' b) ∨ (w.heap.size ≤ b ∧ b < w'.heap.size)) (xs ++ ys) v' := by
  have hsmall : xs.length + ys.length ≤ 9223372036854775807 := by simp only [maxLen] at h63; omega
  have newrow : ∀ (olds : List Value) (old : Nat), olds.length = xs.length * d.sz → els d w.heap (fun b => S b) xs (fun k => olds[k]?) →
      let n := xs.length + ys.length
      let w' := w.drew.alloc (.cells (olds.toArray ++ news.toArray ++ Builtin.zeroCells z.cells (grownCap w n old e - n)) e)
      Grew w w' S ∧ owRow e d w'.heap (fun b => (S b ∨ S' b) ∨ (w.heap.size ≤ b ∧ b < w'.heap.size)) (xs ++ ys) (.slice (some ⟨w.heap.size, 0, none⟩) n (grownCap w n old e)) := by
    intro olds old holds hels n w'
    have hge := grownCap_ge w n old e
    have hcm : grownCap w n old e ≤ maxLen := grownCap_le_maxLen w n old e h63
    have hsz1 : w'.heap.size = w.heap.size + 1 := by show (w.heap.push _).size = _; simp
    have hk : ∀ b, b < w.heap.size → w'.heap[b]? = w.heap[b]? := fun b hb => Below.heap_alloc w.drew _ b hb
    refine ⟨⟨rfl, rfl, rfl, by omega, fun b hb _ => hk b hb⟩, some ⟨w.heap.size, 0, none⟩, _, by rw [List.length_append], by rw [List.length_append]; exact hge, hcm, .inr ⟨w.heap.size, _, rfl, .inr ⟨Nat.le_refl _, by omega⟩, heap_alloc_new w.drew _, ?_, ?_⟩⟩
    · simp only [Array.size_append, List.size_toArray, size_zeroCells, hzs, holds, hl, ← Nat.add_mul]
      congr 1
      show xs.length + ys.length + (grownCap w n old e - n) = _
      omega
    · refine els_mono (fun b hb => ?_) (els_loc (h := w.heap) (fun b _ hlt => hk b hlt) (els_append (S := S) (S' := S') hels hys hd (c := fun k => (olds.toArray ++ news.toArray ++ Builtin.zeroCells z.cells (grownCap w n old e - n))[k]?) ?_ ?_))
      · refine ⟨.inl hb, fun e0 => ?_⟩
        have := hb.elim (hS b) (hS' b)
        omega
      · intro k hk1 u hu
        rw [Array.append_assoc, Array.getElem?_append_left (by simp [holds]; exact hk1)]
        simpa using hu
      · intro k hk1 u hu
        rw [Array.getElem?_append_left (by simp [holds, hl]; omega), Array.getElem?_append_right (by simp [holds])]
        simpa [holds] using hu
  obtain ⟨A, cap, rfl, hnc, hcm, hcase⟩ := owRow_iff.1 ho
  rcases hcase with rfl | ⟨g, cells, rfl, hSg, hg, hcs, hels⟩
  · have hx : xs = [] := List.eq_nil_of_length_eq_zero (by omega)
    subst hx
    by_cases hm : ys.length = 0
    · have hy : ys = [] := List.eq_nil_of_length_eq_zero hm
      subst hy
      have hn : news = [] := List.eq_nil_of_length_eq_zero (by simpa using hl)
      subst hn
      refine ⟨.slice A 0 0, w, ?_, ⟨rfl, rfl, rfl, Nat.le_refl _, fun _ _ _ => rfl⟩, owRow_empty A⟩
      cases A <;> simp [Builtin.append_, run_underlying ht, sizeOf, typeInfo, hi, Builtin.lenOf, Builtin.firstCells, loadCells, loadCellsFrom, storeCells]
    · have hn := newrow [] 0 (by simp) els_nil
      simp only [List.length_nil, Nat.zero_add, Array.empty_append] at hn
      cases A with
      | none =>
        have hr := run_append_nil (P := P) w t ty e i z ht hi hz a ys.length c news (by rw [hsz]; exact hl) hnews (by omega) (by simp only [List.length_nil] at hsmall; omega) (by simp only [List.length_nil, Nat.zero_add] at hbytes; omega)
        refine ⟨_, _, hr, hn.1, ?_⟩
        simpa using hn.2
      | some b =>
        have hr := run_append_grow (P := P) w t ty e i z ht hi hz b 0 0 [] (by simp) (fun j u hu => by simp at hu) a ys.length c news (by rw [hsz]; exact hl) hnews (by omega) (by simp only [List.length_nil] at hsmall; omega)
          (growslice_fits (by omega) (by simp only [List.length_nil] at hbytes; exact hbytes))
        simp only [Nat.zero_add, Array.empty_append] at hr
        refine ⟨_, _, hr, hn.1, ?_⟩
        simpa using hn.2
  · by_cases hroom : xs.length + ys.length ≤ cap
    · have hfit : xs.length * i.size + news.length ≤ cells.size := by rw [hl, hcs, hsz, ← Nat.add_mul]; exact Nat.mul_le_mul_right _ hroom
      have hr := run_append_room (P := P) w t ty e i ht hi g xs.length cap cells hg a ys.length c news (by rw [hsz]; exact hl) hnews h1 hroom hfit
      refine ⟨_, _, hr, ⟨rfl, rfl, rfl, by simp [World.setRow], fun b _ hb => setRow_other w g b _ (fun e => hb (e ▸ hSg))⟩, some ⟨g, 0, none⟩, cap, by rw [List.length_append], by rw [List.length_append]; exact hroom, hcm,
        .inr ⟨g, _, rfl, .inl (.inl hSg), setRow_heap w g cells _ e _ hg, ?_, ?_⟩⟩
      · rw [hsz] at hfit
        simp only [List.size_toArray, List.length_append, List.length_take, List.length_drop, Array.length_toList, hsz]
        omega
      · refine els_mono (fun b hb => ?_) (els_loc (h := w.heap) (fun b hb _ => setRow_other w g b _ (fun e => ?_)) (els_append hels hys (fun b hb => hd b hb.1) (c := fun k => (cells.toList.take (xs.length * i.size) ++ news ++ cells.toList.drop (xs.length * i.size + news.length)).toArray[k]?) ?_ ?_))
        · exact ⟨.inl (hb.imp (fun h => h.1) id), hb.elim (fun h => h.2) (fun hb e => hd g hSg (e ▸ hb))⟩
        · subst e
          exact hb.elim (fun h => h.2 rfl) (fun hb => hd _ hSg hb)
        · intro k hk u hu
          rw [hsz] at hfit ⊢
          simp only [List.getElem?_toArray]
          rw [List.append_assoc, List.getElem?_append_left (by simp; omega), List.getElem?_take_of_lt hk]
          simpa using hu
        · intro k hk u hu
          rw [hsz] at hfit ⊢
          simp only [List.getElem?_toArray]
          rw [List.getElem?_append_left (by simp; omega), List.getElem?_append_right (by simp; omega)]
          simp only [List.length_take, Array.length_toList]
          rw [show xs.length * d.sz + k - min (xs.length * d.sz) cells.size = k by omega]
          exact hu
    · have hels' : els d w.heap S xs (fun k => (cells.toList.take (xs.length * d.sz))[k]?) := els_mono (fun b hb => hb.1) (els_cells hels fun k hk u hu => by
        rw [List.getElem?_take_of_lt hk]
        simpa using hu)
      have hlen : (cells.toList.take (xs.length * d.sz)).length = xs.length * d.sz := by
        have : xs.length * d.sz ≤ cells.size := by rw [hcs]; exact Nat.mul_le_mul_right _ hnc
        simp; omega
      have hr := run_append_grow (P := P) w t ty e i z ht hi hz ⟨g, 0, none⟩ xs.length cap (cells.toList.take (xs.length * d.sz)) (by rw [hsz]; exact hlen)
        (fun j u hu => by
          rw [add_at, cell_of_block hg, Nat.zero_add]
          rw [List.getElem?_take] at hu
          split at hu
          · simpa using hu
          · cases hu)
        a ys.length c news (by rw [hsz]; exact hl) hnews (by omega) (by omega) (growslice_fits (by omega) hbytes)
      have hn := newrow _ cap hlen hels'
      exact ⟨_, _, hr, hn.1, hn.2⟩
end
end Go.Proofs.Ytjbbakckckihnaa.Sx
