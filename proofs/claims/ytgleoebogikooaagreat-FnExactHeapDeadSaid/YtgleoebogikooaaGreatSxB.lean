/- Library: a checked symbolic machine over the model's code (part SxB). No conditions: each theorem says its own. -/
import Derived.Test.YtgleoebogikooaaGreatSxA
import Derived.Laws.OwnMore
import Derived.Laws.MakeOwn
import Derived.ChangeArms
import Derived.Deep.Slices
import Derived.WideShapes
namespace Go.Proofs.YtgleoebogikooaaGreat.Sx
set_option linter.unusedVariables false
set_option linter.unusedSimpArgs false
open Go.RowKit
section
variable {α : Type} {d : Kn α} {h h' : Hp} {S S' : Nat → Prop} {xs ys : List α} {e : Nat} {v : Value}
def els (d : Kn α) (h : Hp) (S : Nat → Prop) (xs : List α) (c : Nat → Option Value) : Prop :=
 ∃ T : Nat → Nat → Prop, (∀ i b, T i b → S b) ∧ (∀ i j b, i ≠ j → T i b → ¬ T j b) ∧
  ∀ i x, xs[i]? = some x → ∃ cs, d.ow h (T i) x cs ∧ ∀ j u, cs[j]? = some u → c (i * d.sz + j) = some u
theorem owRow_iff : owRow e d h S xs v ↔ ∃ (A : Option Addr) (c : Nat), v = .slice A xs.length c ∧ xs.length ≤ c ∧ c ≤ maxLen ∧
  (c = 0 ∨ ∃ (g : Nat) (cells : Array Value), A = some ⟨g, 0, none⟩ ∧ S g ∧ h[g]? = some (.cells cells e (0, 0)) ∧ cells.size = c * d.sz ∧ els d h (fun b => S b ∧ b ≠ g) xs (fun k => cells[k]?)) := Iff.rfl
theorem els_loc {c : Nat → Option Value} (hs : ∀ b, S b → b < h.size → h'[b]? = h[b]?) (ho : els d h S xs c) : els d h' S xs c := by
 obtain ⟨T, h1, h2, h3⟩ := ho
 refine ⟨T, h1, h2, fun i x hx => ?_⟩
 obtain ⟨cs, h4, h5⟩ := h3 i x hx
 exact ⟨cs, d.loc (fun b hb => hs b (h1 i b hb)) h4, h5⟩
theorem els_mono {c : Nat → Option Value} (hs : ∀ b, S b → S' b) (ho : els d h S xs c) : els d h S' xs c := by
 obtain ⟨T, h1, h2, h3⟩ := ho
 exact ⟨T, fun i b hb => hs b (h1 i b hb), h2, h3⟩
theorem els_cells {c c' : Nat → Option Value} (ho : els d h S xs c) (hc : ∀ k, k < xs.length * d.sz → ∀ u, c k = some u → c' k = some u) : els d h S xs c' := by
 obtain ⟨T, h1, h2, h3⟩ := ho
 refine ⟨T, h1, h2, fun i x hx => ?_⟩
 obtain ⟨cs, h4, h5⟩ := h3 i x hx
 refine ⟨cs, h4, fun j u hu => hc _ ?_ u (h5 j u hu)⟩
 have hi : i < xs.length := (List.getElem?_eq_some_iff.1 hx).1
 have hj : j < d.sz := by rw [← d.len (d.read h4)]; exact (List.getElem?_eq_some_iff.1 hu).1
 have : (i + 1) * d.sz ≤ xs.length * d.sz := Nat.mul_le_mul_right _ hi
 rw [Nat.add_mul] at this
 omega
theorem els_nil {c : Nat → Option Value} : els d h S [] c := ⟨fun _ _ => False, fun _ _ hb => hb.elim, fun _ _ _ _ hb => hb.elim, fun i x hx => by simp at hx⟩
theorem els_one {x : α} {cs : List Value} {c : Nat → Option Value} (ho : d.ow h S x cs) (hc : ∀ j u, cs[j]? = some u → c j = some u) : els d h S [x] c := by
 refine ⟨fun i b => i = 0 ∧ S b, fun i b hb => hb.2, fun i j b hne hi hj => hne (hi.1.trans hj.1.symm), fun i y hy => ?_⟩
 obtain rfl : i = 0 := by
  have := (List.getElem?_eq_some_iff.1 hy).1
  simpa using this
 simp at hy
 subst hy
 exact ⟨cs, d.mono (fun b hb => ⟨rfl, hb⟩) ho, fun j u hu => by rw [Nat.zero_mul, Nat.zero_add]; exact hc j u hu⟩
theorem els_append {c1 c2 : Nat → Option Value} (h1 : els d h S xs c1) (h2 : els d h S' ys c2) (hd : ∀ b, S b → ¬ S' b) {c : Nat → Option Value}
  (hc1 : ∀ k, k < xs.length * d.sz → ∀ u, c1 k = some u → c k = some u) (hc2 : ∀ k, k < ys.length * d.sz → ∀ u, c2 k = some u → c (xs.length * d.sz + k) = some u) : els d h (fun b => S b ∨ S' b) (xs ++ ys) c := by
 obtain ⟨T1, a1, a2, a3⟩ := els_cells h1 hc1
 obtain ⟨T2, b1, b2, b3⟩ := els_cells (c' := fun k => c (xs.length * d.sz + k)) h2 hc2
 refine ⟨fun i b => if i < xs.length then T1 i b else T2 (i - xs.length) b, fun i b hb => ?_, fun i j b hne hi hj => ?_, fun i x hx => ?_⟩
 ·by_cases hi : i < xs.length
  ·simp only [hi, if_true] at hb; exact .inl (a1 i b hb)
  ·simp only [hi, if_false] at hb; exact .inr (b1 _ b hb)
 ·by_cases h3 : i < xs.length <;> by_cases h4 : j < xs.length <;> simp only [h3, h4, if_true, if_false] at hi hj
  ·exact a2 i j b hne hi hj
  ·exact hd b (a1 i b hi) (b1 _ b hj)
  ·exact hd b (a1 j b hj) (b1 _ b hi)
  ·exact b2 _ _ b (by omega) hi hj
 ·by_cases hi : i < xs.length
  ·rw [List.getElem?_append_left hi] at hx
   obtain ⟨cs, h3, h4⟩ := a3 i x hx
   exact ⟨cs, by simpa only [hi, if_true] using h3, h4⟩
  ·rw [List.getElem?_append_right (by omega)] at hx
   obtain ⟨cs, h3, h4⟩ := b3 _ x hx
   refine ⟨cs, by simpa only [hi, if_false] using h3, fun j u hu => ?_⟩
   have := h4 j u hu
   rw [show i * d.sz + j = xs.length * d.sz + ((i - xs.length) * d.sz + j) by
    rw [← Nat.add_assoc, ← Nat.add_mul]
    congr 2
    omega]
   exact this
structure Grew (w w' : World) (S : Nat → Prop) : Prop where
 os : w'.os = w.os
 tape : w'.tape = w.tape
 output : w'.output = w.output
 size : w.heap.size ≤ w'.heap.size
 keep : ∀ b, b < w.heap.size → ¬ S b → w'.heap[b]? = w.heap[b]?
theorem append_run {P : Program} {w : World} {t ty : Nat} {i : TypeInfo} {z : Value} (ht : P.underlying t = some (.slice e)) (hi : P.info? e = some i) (hz : i.zero = some z) (hsz : i.size = d.sz) (hzs : z.cells.size = d.sz) (h0 : 0 < d.sz)
  (ho : owRow e d w.heap S xs v) (hS : ∀ b, S b → b < w.heap.size) (hS' : ∀ b, S' b → b < w.heap.size) (hd : ∀ b, S b → ¬ S' b)
  (a : Addr) (c : Nat) (news : List Value) (hl : news.length = ys.length * d.sz) (hnews : ∀ j u, news[j]? = some u → w.cell? (a.add j) = some u) (h1 : ∀ u ∈ news, u.oneCell' = true)
  (hys : els d w.heap S' ys (fun k => news[k]?)) (h63 : xs.length + ys.length ≤ maxLen) (hbytes : (xs.length + ys.length) * i.bytes ≤ 140737488355328) :
  ∃ v' w', (Builtin.append_ #[t, t] ty #[v, .slice (some a) ys.length c]).run P w = .ok v' w' ∧ Grew w w' S ∧ owRow e d w'.heap (fun b => (S b ∨ S' b) ∨ (w.heap.size ≤ b ∧ b < w'.heap.size)) (xs ++ ys) v' := by
 have hsmall : xs.length + ys.length ≤ 9223372036854775807 := by simp only [maxLen] at h63; omega
 have newrow : ∀ (olds : List Value) (old : Nat), olds.length = xs.length * d.sz → els d w.heap (fun b => S b) xs (fun k => olds[k]?) →
   let n := xs.length + ys.length
   let w' := w.drew.alloc (.cells (olds.toArray ++ news.toArray ++ Builtin.zeroCells z.cells (grownCap w n old e - n)) e)
   Grew w w' S ∧ owRow e d w'.heap (fun b => (S b ∨ S' b) ∨ (w.heap.size ≤ b ∧ b < w'.heap.size)) (xs ++ ys) (.slice (some ⟨w.heap.size, 0, none⟩) n (grownCap w n old e)) := by
  intro olds old holds hels n w'
  have hge := grownCap_ge w n old e
  have hcm : grownCap w n old e ≤ maxLen := grownCap_le_maxLen w n old e h63
  have hsz1 : w'.heap.size = w.heap.size + 1 := by show (w.heap.push _).size = _; simp
  have hk : ∀ b, b < w.heap.size → w'.heap[b]? = w.heap[b]? := fun b hb => Below.heap_alloc w.drew _ b hb
  refine ⟨⟨rfl, rfl, rfl, by omega, fun b hb _ => hk b hb⟩, some ⟨w.heap.size, 0, none⟩, _, by rw [List.length_append], by rw [List.length_append]; exact hge, hcm, .inr ⟨w.heap.size, _, rfl, .inr ⟨Nat.le_refl _, by omega⟩, heap_alloc_new w.drew _, ?_, ?_⟩⟩
  ·simp only [Array.size_append, List.size_toArray, size_zeroCells, hzs, holds, hl, ← Nat.add_mul]
   congr 1
   show xs.length + ys.length + (grownCap w n old e - n) = _
   omega
  ·refine els_mono (fun b hb => ?_) (els_loc (h := w.heap) (fun b _ hlt => hk b hlt) (els_append (S := S) (S' := S') hels hys hd (c := fun k => (olds.toArray ++ news.toArray ++ Builtin.zeroCells z.cells (grownCap w n old e - n))[k]?) ?_ ?_))
   ·refine ⟨.inl hb, fun e0 => ?_⟩
    have := hb.elim (hS b) (hS' b)
    omega
   ·intro k hk1 u hu
    rw [Array.append_assoc, Array.getElem?_append_left (by simp [holds]; exact hk1)]
    simpa using hu
   ·intro k hk1 u hu
    rw [Array.getElem?_append_left (by simp [holds, hl]; omega), Array.getElem?_append_right (by simp [holds])]
    simpa [holds] using hu
 obtain ⟨A, cap, rfl, hnc, hcm, hcase⟩ := owRow_iff.1 ho
 rcases hcase with rfl | ⟨g, cells, rfl, hSg, hg, hcs, hels⟩
 ·have hx : xs = [] := List.eq_nil_of_length_eq_zero (by omega)
  subst hx
  by_cases hm : ys.length = 0
  ·have hy : ys = [] := List.eq_nil_of_length_eq_zero hm
   subst hy
   have hn : news = [] := List.eq_nil_of_length_eq_zero (by simpa using hl)
   subst hn
   refine ⟨.slice A 0 0, w, ?_, ⟨rfl, rfl, rfl, Nat.le_refl _, fun _ _ _ => rfl⟩, owRow_empty A⟩
   cases A <;> simp [Builtin.append_, run_underlying ht, sizeOf, typeInfo, hi, Builtin.lenOf, Builtin.firstCells, loadCells, loadCellsFrom, storeCells]
  ·have hn := newrow [] 0 (by simp) els_nil
   simp only [List.length_nil, Nat.zero_add, Array.empty_append] at hn
   cases A with
   | none =>
    have hr := run_append_nil (P := P) w t ty e i z ht hi hz a ys.length c news (by rw [hsz]; exact hl) hnews (by omega) (by simp only [List.length_nil] at hsmall; omega) (by simp only [List.length_nil, Nat.zero_add] at hbytes; omega)
    refine ⟨_, _, hr, hn.1, ?_⟩
    simpa using hn.2
   | some b =>
    have hr := run_append_grow (P := P) w t ty e i z ht hi hz b 0 0 [] (by simp) (fun j u hu => by simp at hu) a ys.length c news (by rw [hsz]; exact hl) hnews (by omega) (by simp only [List.length_nil] at hsmall; omega)
     (growslice_fits (by omega) (by simp only [List.length_nil] at hbytes; exact hbytes))
    simp only [Nat.zero_add, Array.empty_append] at hr
    refine ⟨_, _, hr, hn.1, ?_⟩
    simpa using hn.2
 ·by_cases hroom : xs.length + ys.length ≤ cap
  ·have hfit : xs.length * i.size + news.length ≤ cells.size := by rw [hl, hcs, hsz, ← Nat.add_mul]; exact Nat.mul_le_mul_right _ hroom
   have hr := run_append_room (P := P) w t ty e i ht hi g xs.length cap cells hg a ys.length c news (by rw [hsz]; exact hl) hnews h1 hroom hfit
   refine ⟨_, _, hr, ⟨rfl, rfl, rfl, by simp [World.setRow], fun b _ hb => setRow_other w g b _ (fun e => hb (e ▸ hSg))⟩, some ⟨g, 0, none⟩, cap, by rw [List.length_append], by rw [List.length_append]; exact hroom, hcm,
    .inr ⟨g, _, rfl, .inl (.inl hSg), setRow_heap w g cells _ e _ hg, ?_, ?_⟩⟩
   ·rw [hsz] at hfit
    simp only [List.size_toArray, List.length_append, List.length_take, List.length_drop, Array.length_toList, hsz]
    omega
   ·refine els_mono (fun b hb => ?_) (els_loc (h := w.heap) (fun b hb _ => setRow_other w g b _ (fun e => ?_)) (els_append hels hys (fun b hb => hd b hb.1) (c := fun k => (cells.toList.take (xs.length * i.size) ++ news ++ cells.toList.drop (xs.length * i.size + news.length)).toArray[k]?) ?_ ?_))
    ·exact ⟨.inl (hb.imp (fun h => h.1) id), hb.elim (fun h => h.2) (fun hb e => hd g hSg (e ▸ hb))⟩
    ·subst e
     exact hb.elim (fun h => h.2 rfl) (fun hb => hd _ hSg hb)
    ·intro k hk u hu
     rw [hsz] at hfit ⊢
     simp only [List.getElem?_toArray]
     rw [List.append_assoc, List.getElem?_append_left (by simp; omega), List.getElem?_take_of_lt hk]
     simpa using hu
    ·intro k hk u hu
     rw [hsz] at hfit ⊢
     simp only [List.getElem?_toArray]
     rw [List.getElem?_append_left (by simp; omega), List.getElem?_append_right (by simp; omega)]
     simp only [List.length_take, Array.length_toList]
     rw [show xs.length * d.sz + k - min (xs.length * d.sz) cells.size = k by omega]
     exact hu
  ·have hels' : els d w.heap S xs (fun k => (cells.toList.take (xs.length * d.sz))[k]?) := els_mono (fun b hb => hb.1) (els_cells hels fun k hk u hu => by
    rw [List.getElem?_take_of_lt hk]
    simpa using hu)
   have hlen : (cells.toList.take (xs.length * d.sz)).length = xs.length * d.sz := by
    have : xs.length * d.sz ≤ cells.size := by rw [hcs]; exact Nat.mul_le_mul_right _ hnc
    simp; omega
   have hr := run_append_grow (P := P) w t ty e i z ht hi hz ⟨g, 0, none⟩ xs.length cap (cells.toList.take (xs.length * d.sz)) (by rw [hsz]; exact hlen)
    (fun j u hu => by
     rw [add_at, cell_of_block hg, Nat.zero_add]
     rw [List.getElem?_take] at hu
     split at hu
     ·simpa using hu
     ·cases hu)
    a ys.length c news (by rw [hsz]; exact hl) hnews (by omega) (by omega) (growslice_fits (by omega) hbytes)
   have hn := newrow _ cap hlen hels'
   exact ⟨_, _, hr, hn.1, hn.2⟩
end
end Go.Proofs.YtgleoebogikooaaGreat.Sx
namespace Go.Proofs.YtgleoebogikooaaGreat.Sx
set_option linter.unusedVariables false
set_option linter.unusedSimpArgs false
open Go.RowKit
section
variable {C : Cx} {F : List HA}
def capM (n m : Nat) : Nat := bif Nat.ble 10 m then (bif Nat.ble (m - 10) n then m else 10 + n) else m
def capRg (n : Nat) : Rg → Rg
 | .dr p l f m => .dr p l f (capM n m)
 | .fx p l f m i => .fx p l f (capM n m) i
 | .no => .no
 | .sq p i => .sq p i
theorem capM_spec (n m : Nat) : (capM n m = m ∧ (10 ≤ m → m - 10 ≤ n)) ∨ (10 ≤ m ∧ capM n m = 10 + n ∧ n < m - 10) := by
 unfold capM
 cases h10 : Nat.ble 10 m with
 | false => exact .inl ⟨rfl, fun h => by rw [Nat.ble_eq_true_of_le h] at h10; cases h10⟩
 | true =>
  cases h2 : Nat.ble (m - 10) n with
  | true => exact .inl ⟨rfl, fun _ => Nat.le_of_ble_eq_true h2⟩
  | false => exact .inr ⟨Nat.le_of_ble_eq_true h10, rfl, Nat.lt_of_not_le fun h => by rw [Nat.ble_eq_true_of_le h] at h2; cases h2⟩
theorem reg_cap {n0 n m : Nat} {L : List Nat} {w1 w : World} (hreg : (m = 2 → w.heap = w1.heap) ∧ (1 ≤ m → keepAll w1 w) ∧ (m = 3 → w1.heap.size = 0) ∧ (m ≠ 3 → n0 ≤ w1.heap.size) ∧ (10 ≤ m → m - 10 ≤ L.length ∧ ∀ i x, i < m - 10 → L[i]? = some x → x < w1.heap.size)) :
  (capM n m = 2 → w.heap = w1.heap) ∧ (1 ≤ capM n m → keepAll w1 w) ∧ (capM n m = 3 → w1.heap.size = 0) ∧ (capM n m ≠ 3 → n0 ≤ w1.heap.size) ∧ (10 ≤ capM n m → capM n m - 10 ≤ (L.take n).length ∧ ∀ i x, i < capM n m - 10 → (L.take n)[i]? = some x → x < w1.heap.size) := by
 obtain ⟨a1, a2, a3, a4, a5⟩ := hreg
 have hg : ∀ i x, (L.take n)[i]? = some x → L[i]? = some x := fun i x hx => by
  rw [List.getElem?_take] at hx
  split at hx
  ·exact hx
  ·cases hx
 rcases capM_spec n m with ⟨he, h1⟩ | ⟨h10, he, h1⟩
 ·rw [he]
  exact ⟨a1, a2, a3, a4, fun h => ⟨by rw [List.length_take]; have := (a5 h).1; have := h1 h; omega, fun i x hi hx => (a5 h).2 i x hi (hg i x hx)⟩⟩
 ·rw [he]
  have := (a5 h10).1
  exact ⟨fun h => by omega, fun _ => a2 (by omega), fun h => by omega, fun _ => a4 (by omega), fun _ => ⟨by rw [List.length_take]; omega, fun i x hi hx => (a5 h10).2 i x (by omega) (hg i x hx)⟩⟩
theorem regOK_cap {n0 n : Nat} {L : List Nat} {rg : Rg} {w1 w : World} (h : RegOK n0 L rg w1 w) : RegOK n0 (L.take n) (capRg n rg) w1 w := by
 cases rg with
 | no => exact h
 | sq p i => exact h
 | dr p l f m => exact reg_cap h
 | fx p l f m i => exact reg_cap h
theorem runR_cap {n : Nat} {S : World → Prop} {rg : Rg} {K : List KI} {a : Act} {w : World} (h : runR C S (capRg n rg) K a w) : runR C S rg K a w := by
 cases rg <;> exact h
theorem h_forget {rg : Rg} {K : List KI} {tm : List (Nat × SV)} {lb : List LB} (n : Nat) (hw : wfAll n tm (lb.take n) = true) (hn : Nat.ble C.L0.length n = true) (h : Holds C F ⟨capRg n rg, K, tm, lb.take n⟩) : Holds C F ⟨rg, K, tm, lb⟩ := by
 intro L w1 w a hs ht hr
 refine runR_cap (n := n) ?_
 have hr := regOK_cap (n := n) hr
 have hn := Nat.le_of_ble_eq_true hn
 obtain ⟨h3, h4⟩ : tm.all (fun p => p.2.wf n) = true ∧ (lb.take n).all (fun b => b.cells.all (SC.wf n)) = true := by simpa only [wfAll, Bool.and_eq_true] using hw
 rcases Nat.lt_or_ge n L.length with hlt | hge
 ·have hL : L.take n ++ L.drop n = L := List.take_append_drop n L
  have hlen : (L.take n).length = n := by simp; omega
  obtain ⟨⟨henv, M, hM⟩, ⟨l1, l2, l3⟩, S, hS, hF⟩ := hs
  refine h (L.take n) w1 w a ⟨⟨henv, ⟨M.take (n - C.L0.length), ?_⟩⟩, ⟨by rw [List.length_take, List.length_take, l1], ?_, fun i b hb => ?_⟩, S, fun b hb => ⟨(hS b hb).1, fun hm => (hS b hb).2 (List.mem_of_mem_take hm)⟩, hF⟩ ⟨ht.1, ht.2.1, fun t v hv => ?_⟩ hr
  ·rw [← hM, List.take_append, List.take_of_length_le hn]
  ·exact l2.sublist (List.take_sublist n L)
  ·have hi : i < n := by
    have := (List.getElem?_eq_some_iff.1 hb).1
    rw [List.length_take] at this
    omega
   have hb2 := List.all_eq_true.1 h4 b (List.mem_of_getElem? hb)
   rw [List.getElem?_take_of_lt hi] at hb
   have h5 := l3 i b hb
   have e1 : L.getD i 0 = (L.take n).getD i 0 := by
    rw [List.getD_eq_getElem?_getD, List.getD_eq_getElem?_getD, List.getElem?_take_of_lt hi]
   have e2 : b.cells.map (SC.val L) = b.cells.map (SC.val (L.take n)) := List.map_congr_left fun c hc => by
    rw [← SC.val_app (L := L.take n) (M := L.drop n) (by rw [hlen]; exact List.all_eq_true.1 hb2 c hc), hL]
   rw [← e1, ← e2]
   exact h5
  ·rw [← SV.val_app (L := L.take n) (M := L.drop n) (by rw [hlen]; exact List.all_eq_true.1 h3 _ (lk_mem hv)), hL]
   exact ht.2.2 t v hv
 ·have e1 : lb.take n = lb := List.take_of_length_le (by rw [hs.2.1.1]; exact hge)
  rw [e1] at h
  have e2 : L.take n = L := List.take_of_length_le hge
  rw [e2] at hr
  exact h L w1 w a hs ht hr
def selTm (tm : List (Nat × SV)) : List Nat → List (Nat × SV)
 | [] => []
 | k :: r => match lk tm k with
  | some v => (k, v) :: selTm tm r
  | none => selTm tm r
theorem lk_sel {tm : List (Nat × SV)} {t : Nat} {v : SV} : ∀ {ks : List Nat}, lk (selTm tm ks) t = some v → lk tm t = some v
 | [], h => by cases h
 | k :: r, h => by
  simp only [selTm] at h
  split at h
  ·rename_i u hu
   simp only [lk] at h
   cases hb : Nat.beq k t with
   | true =>
    rw [hb] at h
    obtain rfl := Option.some.inj h
    rw [← Nat.eq_of_beq_eq_true hb]
    exact hu
   | false => rw [hb] at h; exact lk_sel h
  ·exact lk_sel h
def trim2 (ks : List Nat) (n : Nat) (st : St) : St := ⟨capRg n st.rg, st.K, selTm st.tm ks, st.lb.take n⟩
theorem go (hm : C.P.follows .mixedOrders = true) (n : Nat) (ks : List Nat) (nl : Nat) {st : St} (st' : St) (he : trim2 ks nl (exec C.P C.B C.fn.ntmps n st) = st') (hw : wfAll nl st'.tm st'.lb = true) (hn : Nat.ble C.L0.length nl = true) (h : Holds C F st') : Holds C F st := by
 subst he
 refine exec_ok hm n ?_
 have h1 := h_forget (lb := (exec C.P C.B C.fn.ntmps n st).lb) nl hw hn h
 exact fun L w1 w a hs ht hr => h1 L w1 w a hs (ht.weaken fun t v hv => lk_sel hv) hr
def updTm (u : List (Nat × SV)) : List (Nat × SV) → List (Nat × SV)
 | [] => []
 | (t, v) :: r => (t, (lk u t).getD v) :: updTm u r
def lkB : List (Nat × LB) → Nat → Option LB
 | [], _ => none
 | (t, v) :: r, k => bif Nat.beq t k then some v else lkB r k
def updLb (u : List (Nat × LB)) : Nat → List LB → List LB
 | _, [] => []
 | k, b :: r => (lkB u k).getD b :: updLb u (k + 1) r
theorem loop_at {ι : Type} {p : List Bool} {K : List KI} {tm : List (Nat × SV)} {lb : List LB} {F0 : List HA} (u : ι → List (Nat × SV)) (ul : ι → List (Nat × LB)) (F : ι → List HA) (I : ι → Prop) (μ : ι → Nat) (i0 : ι) (hu : updTm (u i0) tm = tm) (hul : updLb (ul i0) 0 lb = lb) (hF : F i0 = F0) (hI : I i0)
  (h : ∀ i, I i → (∀ j, I j → μ j < μ i → Holds C (F j) ⟨.no, .loop p :: K, updTm (u j) tm, updLb (ul j) 0 lb⟩) → Holds C (F i) ⟨.no, .code p :: .loop p :: K, updTm (u i) tm, updLb (ul i) 0 lb⟩) : Holds C F0 ⟨.no, .loop p :: K, tm, lb⟩ := by
 have key : ∀ n i, μ i = n → I i → Holds C (F i) ⟨.no, .loop p :: K, updTm (u i) tm, updLb (ul i) 0 lb⟩ := by
  intro n
  induction n using Nat.strongRecOn with
  | _ n ih =>
   intro i hn hi
   exact round_at (h i hi fun j hj hlt => ih (μ j) (hn ▸ hlt) j rfl hj)
 have := key _ i0 rfl hI
 rw [hu, hul, hF] at this
 exact this
def rowTy (P : Program) (t : Nat) : Option (Nat × Nat × Nat) :=
 match P.underlying t with
 | some (.slice e) => match P.info? e with
  | some i => match i.zero with
   | some z => bif Nat.beq z.cells.size i.size && Nat.blt 0 i.size then some (e, i.size, i.bytes) else none
   | none => none
  | none => none
 | _ => none
theorem rowTy_spec {P : Program} {t e sz by_ : Nat} (h : rowTy P t = some (e, sz, by_)) : ∃ i z, P.underlying t = some (.slice e) ∧ P.info? e = some i ∧ i.zero = some z ∧ i.size = sz ∧ z.cells.size = sz ∧ i.bytes = by_ ∧ 0 < sz := by
 unfold rowTy at h
 split at h
 ·rename_i e' hu
  split at h
  ·rename_i i hi
   split at h
   ·rename_i z hz
    obtain ⟨h1, h2⟩ := bif_some h
    cases h2
    obtain ⟨h3, h4⟩ : Nat.beq z.cells.size i.size = true ∧ Nat.blt 0 i.size = true := by simpa only [Bool.and_eq_true] using h1
    exact ⟨i, z, hu, hi, hz, rfl, Nat.eq_of_beq_eq_true h3, rfl, by simpa [Nat.blt_eq] using h4⟩
   ·cases h
  ·cases h
 ·cases h
theorem exec_append {P : Program} {ρ : Operand → Value} {s x : Operand} {t u ty : Nat} {w w' : World} {v : Value} (hr : (Builtin.append_ #[t, u] ty #[ρ s, ρ x]).run P w = .ok v w') :
  (execOp ρ (opOf (.call { callee := .builtin .append, args := #[s, x], argTypes := #[t, u] }) ty)).run P w = .ok (.value v) w' := by
 simp only [opOf, execOp, resolve, invoke, builtin, Sem.run_bind, Sem.run_pure, Result.andThen_ok, List.map_toArray, List.map_cons, List.map_nil, hr]
theorem opL_tmp {L : List Nat} {tm : List (Nat × SV)} {t : Nat} {v : SV} (h : lk tm t = some v) : opL L tm (.tmp t) = v.val L := by
 simp only [opL, opv, h]
theorem append_grown {α : Type} {d : Kn α} {xs ys : List α} {A : List HA} {v : Value} {e : Nat} {lb : List LB} {L : List Nat} {w : World} {P : Program} {t ty by_ : Nat} {a : Addr} {c : Nat} {news : List Value}
  (hs : SOK C ((rowA e d xs v :: A) ++ F) lb L w) (hT : rowTy P t = some (e, d.sz, by_)) (hl : news.length = ys.length * d.sz) (hnews : ∀ j u, news[j]? = some u → w.cell? (a.add j) = some u) (h1 : ∀ u ∈ news, u.oneCell' = true)
  (hys : ∀ S : Nat → Prop, sepL A w.heap S → els d w.heap S ys (fun k => news[k]?)) (h63 : xs.length + ys.length ≤ maxLen) (hbytes : (xs.length + ys.length) * by_ ≤ 140737488355328) :
  ∃ (B : Option Addr) (n : Nat) (w' : World), (Builtin.append_ #[t, t] ty #[v, .slice (some a) ys.length c]).run P w = .ok (.slice B (xs ++ ys).length n) w' ∧ SOK C (rowA e d (xs ++ ys) (.slice B (xs ++ ys).length n) :: F) lb L w' := by
 obtain ⟨i, z, hu, hi, hz, hsz, hzs, hby, h0⟩ := rowTy_spec hT
 obtain ⟨S, ⟨S1, S2, a1, a2, a3, hrow, hA⟩, hS, hmut⟩ := hs.mut
 obtain ⟨v', w', hr, hg, ho⟩ := append_run (P := P) (t := t) (ty := ty) hu hi hz hsz hzs h0 (rowA_holds.1 hrow) (fun b hb => (hS b (a1 b hb)).1) (fun b hb => (hS b (a2 b hb)).1) a3 a c news hl hnews h1 (hys S2 hA) h63 (by rw [hby]; exact hbytes)
 obtain ⟨B, n, hv', _⟩ := id ho
 subst hv'
 refine ⟨B, n, w', hr, ?_⟩
 refine hmut w' [rowA e d (xs ++ ys) _] hg.os hg.tape hg.output hg.size (fun b hb hn => hg.keep b hb (fun h => hn (a1 b h))) ?_
 refine ⟨_, fun _ => False, fun b hb => hb.imp (fun h => h.elim (a1 b) (a2 b)) id, fun _ h => h.elim, fun _ _ h => h, rowA_holds.2 ho, trivial⟩
theorem append_lit {α : Type} {d : Kn α} {xs : List α} {y : α} {v : Value} {news : List Value} {st : St} {ts tx t ty e by_ hh : Nat} {dst : Option Tmp} {rg' : Rg} {cells : List SC} {e' : Nat}
  (he : atB C.B C.fn.ntmps st false = some (.call { callee := .builtin .append, args := #[.tmp ts, .tmp tx], argTypes := #[t, t] }, ty, dst, rg')) (hT : rowTy C.P t = some (e, d.sz, by_))
  (hv : lk st.tm ts = some (.one (.v v))) (hx : lk st.tm tx = some (.one (.sl hh 0 1 1))) (hb : st.lb[hh]? = some ⟨cells, e'⟩) (hc : cellsV cells = some news)
  (h63 : xs.length + 1 ≤ maxLen) (hbytes : (xs.length + 1) * by_ ≤ 140737488355328)
  (h : ∀ A c, Holds C (rowA e d (xs ++ [y]) (.slice A (xs ++ [y]).length c) :: F) ⟨rg', st.K, ptO st.tm dst (.one (.v (.slice A (xs ++ [y]).length c))), st.lb⟩) : Holds C (rowA e d xs v :: elA d y news :: F) st := by
 refine prim_at false he (fun L w hs => ?_)
 have hcell : ∀ j u, news[j]? = some u → w.cell? ((⟨L.getD hh 0, 0, none⟩ : Addr).add j) = some u := fun j u hu => by
  rw [add_at, cell_of_lb hs.2.1 hb, Nat.zero_add]
  have := cellsV_val hc L
  rw [← List.getElem?_map, this]
  exact hu
 obtain ⟨S0, _, hel⟩ := hs.at_ 1 rfl
 have hone := d.one (d.read hel)
 have hlen := d.len (d.read hel)
 obtain ⟨B, n, w', hr, hs'⟩ := append_grown (ys := [y]) (A := [elA d y news]) (ty := ty) (c := 1) hs hT (by simpa using hlen) hcell hone
  (fun S hA => by
   obtain ⟨S1, S2, b1, _, _, hA, _⟩ := hA
   exact els_mono b1 (els_one hA fun j u hu => hu)) h63 hbytes
 refine ⟨.one (.v (.slice B (xs ++ [y]).length n)), _, st.lb, w', exec_append ?_, fun hk => by (cases hk), hs', h B n⟩
 rw [opL_tmp hv, opL_tmp hx]
 exact hr
end
end Go.Proofs.YtgleoebogikooaaGreat.Sx
namespace Go.Proofs.YtgleoebogikooaaGreat.Sx
set_option linter.unusedVariables false
set_option linter.unusedSimpArgs false
open Go.RowKit
theorem add_add (a : Addr) (k j : Nat) : (a.add k).add j = a.add (k + j) := by
 unfold Addr.add
 by_cases hk : k = 0
 ·subst hk; simp
 ·by_cases hj : j = 0
  ·subst hj; simp [hk]
  ·rw [if_neg hk, if_neg hj, if_neg (by omega)]
   simp [Nat.add_assoc]
section
variable {C : Cx} {F : List HA}
theorem SOK.triv {lb : List LB} {L : List Nat} {w : World} {A : HA} (hs : SOK C F lb L w) (h : A.holds w.heap (fun _ => False)) : SOK C (A :: F) lb L w := by
 obtain ⟨h1, h2, S, hS, hF⟩ := hs
 exact ⟨h1, h2, S, hS, fun _ => False, S, fun _ hb => hb.elim, fun _ hb => hb, fun _ hb => hb.elim, h, hF⟩
theorem els_sc {α : Type} {f : α → Value} {hf : ∀ x, (f x).oneCell' = true} {h : Hp} {S : Nat → Prop} (ys : List α) : els (kVal f hf) h S ys (fun k => (ys.map f)[k]?) :=
 ⟨fun _ _ => False, fun _ _ hb => hb.elim, fun _ _ _ _ hb => hb.elim, fun i x hx => ⟨[f x], rfl, fun j u hu => by
  have hj : j = 0 := by
   have := (List.getElem?_eq_some_iff.1 hu).1
   simpa using this
  subst hj
  simp at hu
  subst hu
  show (ys.map f)[i * 1 + 0]? = _
  rw [Nat.mul_one, Nat.add_zero, List.getElem?_map, hx]
  rfl⟩⟩
theorem rdRow_sc {α : Type} {f : α → Value} {hf : ∀ x, (f x).oneCell' = true} {h : Hp} {ys : List α} {a : Addr} {c : Nat} (hr : rdRow (kVal f hf) h ys (.slice (some a) ys.length c)) : ∀ j u, (ys.map f)[j]? = some u → cellH h (a.add j) = some u := by
 obtain ⟨A, c', hv, _, _, hel⟩ := hr
 cases hv
 intro j u hu
 rw [List.getElem?_map] at hu
 cases hy : ys[j]? with
 | none => rw [hy] at hu; cases hu
 | some y =>
  rw [hy] at hu
  obtain rfl := Option.some.inj hu
  obtain ⟨cs, hcs, hcell⟩ := hel a rfl j y hy
  have hcs : cs = [f y] := hcs
  subst hcs
  have := hcell 0 (f y) rfl
  rw [show j * (kVal f hf).sz + 0 = j by show j * 1 + 0 = j; omega] at this
  exact this
theorem append_run0 {P : Program} {w : World} {t ty e : Nat} {i : TypeInfo} (ht : P.underlying t = some (.slice e)) (hi : P.info? e = some i) {A : Option Addr} {n m c : Nat} (hn : n ≤ m) :
  (Builtin.append_ #[t, t] ty #[.slice A n m, .slice none 0 c]).run P w = .ok (.slice A n m) w := by
 cases A <;> simp [Builtin.append_, run_underlying ht, sizeOf, typeInfo, hi, Builtin.lenOf, Builtin.firstCells, loadCells, loadCellsFrom, hn, storeCells]
theorem append_sc {α : Type} {f : α → Value} {hf : ∀ x, (f x).oneCell' = true} {xs ys : List α} {v : Value} {st : St} {ts tx t ty e by_ : Nat} {dst : Option Tmp} {rg' : Rg} {A : Option Addr} {c : Nat}
  (he : atB C.B C.fn.ntmps st false = some (.call { callee := .builtin .append, args := #[.tmp ts, .tmp tx], argTypes := #[t, t] }, ty, dst, rg')) (hT : rowTy C.P t = some (e, 1, by_))
  (hv : lk st.tm ts = some (.one (.v v))) (hx : lk st.tm tx = some (.one (.v (.slice A ys.length c)))) (hr : ∀ L w, SOK C (rowA e (kVal f hf) xs v :: F) st.lb L w → rdRow (kVal f hf) w.heap ys (.slice A ys.length c))
  (h63 : xs.length + ys.length ≤ maxLen) (hbytes : (xs.length + ys.length) * by_ ≤ 140737488355328)
  (h : ∀ A c, Holds C (rowA e (kVal f hf) (xs ++ ys) (.slice A (xs ++ ys).length c) :: F) ⟨rg', st.K, ptO st.tm dst (.one (.v (.slice A (xs ++ ys).length c))), st.lb⟩) : Holds C (rowA e (kVal f hf) xs v :: F) st := by
 refine prim_at false he (fun L w hs => ?_)
 have hrow := hr L w hs
 cases A with
 | none =>
  have h0 : ys = [] := by
   obtain ⟨A, c', hv', _, hne, _⟩ := hrow
   cases hv'
   apply List.eq_nil_of_length_eq_zero
   apply Nat.eq_zero_of_not_pos
   intro hpos
   obtain ⟨a, ha⟩ := hne hpos
   cases ha
  subst h0
  obtain ⟨i, z, hu, hi, _, _, _, _, _⟩ := rowTy_spec hT
  obtain ⟨S0, _, hrow0⟩ := hs.head
  obtain ⟨B, n, hv', hle, _⟩ := rowA_holds.1 hrow0
  subst hv'
  refine ⟨.one (.v (.slice B (xs ++ []).length n)), _, st.lb, w, exec_append ?_, fun hk => by (cases hk), ?_, h B n⟩
  ·rw [opL_tmp hv, opL_tmp hx]
   simp only [List.append_nil]
   exact append_run0 hu hi hle
  ·simpa only [List.append_nil] using hs
 | some a =>
  have hcells := rdRow_sc hrow
  obtain ⟨B, n, w', hr', hs'⟩ := append_grown (ys := ys) (A := []) (ty := ty) (c := c) (d := kVal f hf) (news := ys.map f) hs hT (by show (ys.map f).length = ys.length * 1; simp) (fun j u hu => hcells j u hu)
   (fun u hu => by obtain ⟨y, _, rfl⟩ := List.mem_map.1 hu; exact hf y) (fun S _ => els_sc ys) h63 hbytes
  refine ⟨.one (.v (.slice B (xs ++ ys).length n)), _, st.lb, w', exec_append ?_, fun hk => by (cases hk), hs', h B n⟩
  rw [opL_tmp hv, opL_tmp hx]
  exact hr'
theorem append_scl {α : Type} {f : α → Value} {hf : ∀ x, (f x).oneCell' = true} {xs : List α} (ys : List α) {v : Value} {st : St} {ts tx t ty e by_ hh m : Nat} {dst : Option Tmp} {rg' : Rg} {cells : List SC} {e' : Nat}
  (he : atB C.B C.fn.ntmps st false = some (.call { callee := .builtin .append, args := #[.tmp ts, .tmp tx], argTypes := #[t, t] }, ty, dst, rg')) (hT : rowTy C.P t = some (e, 1, by_))
  (hv : lk st.tm ts = some (.one (.v v))) (hx : lk st.tm tx = some (.one (.sl hh 0 m m))) (hm : m = ys.length) (hb : st.lb[hh]? = some ⟨cells, e'⟩) (hc : cellsV cells = some (ys.map f))
  (h63 : xs.length + ys.length ≤ maxLen) (hbytes : (xs.length + ys.length) * by_ ≤ 140737488355328)
  (h : ∀ A c, Holds C (rowA e (kVal f hf) (xs ++ ys) (.slice A (xs ++ ys).length c) :: F) ⟨rg', st.K, ptO st.tm dst (.one (.v (.slice A (xs ++ ys).length c))), st.lb⟩) : Holds C (rowA e (kVal f hf) xs v :: F) st := by
 subst hm
 refine prim_at false he (fun L w hs => ?_)
 have hcell : ∀ j u, (ys.map f)[j]? = some u → w.cell? ((⟨L.getD hh 0, 0, none⟩ : Addr).add j) = some u := fun j u hu => by
  rw [add_at, cell_of_lb hs.2.1 hb, Nat.zero_add]
  have := cellsV_val hc L
  rw [← List.getElem?_map, this]
  exact hu
 obtain ⟨B, n, w', hr', hs'⟩ := append_grown (ys := ys) (A := []) (ty := ty) (c := ys.length) (d := kVal f hf) (news := ys.map f) hs hT (by show (ys.map f).length = ys.length * 1; simp) hcell
  (fun u hu => by obtain ⟨y, _, rfl⟩ := List.mem_map.1 hu; exact hf y) (fun S _ => els_sc ys) h63 hbytes
 refine ⟨.one (.v (.slice B (xs ++ ys).length n)), _, st.lb, w', exec_append ?_, fun hk => by (cases hk), hs', h B n⟩
 rw [opL_tmp hv, opL_tmp hx]
 exact hr'
def elSz (P : Program) (t : Nat) : Option Nat :=
 match P.underlying t with
 | some (.slice e) => match P.info? e with
  | some i => some i.size
  | none => none
 | _ => none
theorem opL_v {L : List Nat} {tm : List (Nat × SV)} {x : Operand} {v : SV} (h : opv tm x = some v) : opL L tm x = v.val L := by
 simp only [opL, h]
theorem index_at {st : St} (ip : Nat) {tx t ty sz n c ni : Nat} {ix : Operand} {dst : Option Tmp} {rg' : Rg} {A : Option Addr} {k : IntKind} {j : Int}
  (he : atP C.B C.fn.ntmps st ip false = some (.indexAddr t (.tmp tx) ix, ty, dst, rg')) (hT : elSz C.P t = some sz) (hx : lk st.tm tx = some (.one (.v (.slice A n c)))) (hi : opv st.tm ix = some (.one (.v (.int k j))))
  (hj : j = (ni : Int)) (hn : ni < n) (hA : ∀ L w, SOK C F st.lb L w → ∃ a, A = some a)
  (h : ∀ a, A = some a → Holds C F ⟨rg', st.K, ptO st.tm dst (.one (.v (.pointer (some (a.add (ni * sz)))))), st.lb⟩) : Holds C F st := by
 refine pure_at ip false he (fun L w hs => ?_)
 obtain ⟨a, ha⟩ := hA L w hs
 refine ⟨.one (.v (.pointer (some (a.add (ni * sz))))), F, fun w' _ => ?_, hs, h a ha⟩
 subst ha hj
 unfold elSz at hT
 split at hT
 ·rename_i e hu
  split at hT
  ·rename_i i hinf
   cases hT
   have hc : (0 : Int) ≤ (ni : Int) ∧ (ni : Int) < (n : Int) := by omega
   have h1 : (sizeOf e).run C.P w' = .ok i.size w' := run_size hinf w'
   simp only [opOf, execOp, Instr.indexAt, opL_tmp hx, opL_v hi, SV.val, SC.val, asIntOf, Sem.run_bind, Sem.run_pure, Result.andThen_ok, run_underlying hu, hc, and_self, if_true, h1, Int.toNat_natCast]
  ·cases hT
 ·cases hT
theorem load_one {st : St} (ip : Nat) {tp T ty n : Nat} {dst : Option Tmp} {rg' : Rg} {ad : Addr}
  (he : atP C.B C.fn.ntmps st ip true = some (.load T (.tmp tp), ty, dst, rg')) (hT : aggSz C.P T = some (false, n)) (hp : lk st.tm tp = some (.one (.v (.pointer (some ad)))))
  (h : ∀ L w, SOK C F st.lb L w → ∃ c : SC, cellH w.heap ad = some (c.val L) ∧ Holds C F ⟨rg', st.K, ptO st.tm dst (.one c), st.lb⟩) : Holds C F st := by
 refine pure_at ip true he (fun L w hs => ?_)
 obtain ⟨c, hc, hh⟩ := h L w hs
 refine ⟨.one c, F, fun w' hw' => ?_, hs, hh⟩
 obtain ⟨h1, h2⟩ := aggSz_run hT w'
 have hc' : w'.cell? ad = some (c.val L) := cellH_ext (hw' rfl) hc
 simp only [opOf, execOp, Instr.loadAt, opL_tmp hp, SV.val, SC.val, Instr.sureAddr, Sem.run_bind, Sem.run_pure, Result.andThen_ok, loadVar, h1, Bool.false_eq_true, if_false, load, Sem.run, hc']
theorem load_agg {st : St} (ip : Nat) {tp T ty n : Nat} {dst : Option Tmp} {rg' : Rg} {ad : Addr}
  (he : atP C.B C.fn.ntmps st ip true = some (.load T (.tmp tp), ty, dst, rg')) (hT : aggSz C.P T = some (true, n)) (hp : lk st.tm tp = some (.one (.v (.pointer (some ad)))))
  (h : ∀ L w, SOK C F st.lb L w → ∃ cs : List SC, cs.length = n ∧ (∀ j c, cs[j]? = some c → cellH w.heap (ad.add j) = some (c.val L)) ∧ Holds C F ⟨rg', st.K, ptO st.tm dst (.agg cs), st.lb⟩) : Holds C F st := by
 refine pure_at ip true he (fun L w hs => ?_)
 obtain ⟨cs, hl, hc, hh⟩ := h L w hs
 refine ⟨.agg cs, F, fun w' hw' => ?_, hs, hh⟩
 obtain ⟨h1, h2⟩ := aggSz_run hT w'
 have hload := run_loadCells_list (P := C.P) w' ad (cs.map (SC.val L)) (fun j u hu => by
  rw [List.getElem?_map] at hu
  cases hcj : cs[j]? with
  | none => rw [hcj] at hu; cases hu
  | some c =>
   rw [hcj] at hu
   obtain rfl := Option.some.inj hu
   exact cellH_ext (hw' rfl) (hc j c hcj))
 rw [List.length_map, hl] at hload
 simp only [opOf, execOp, Instr.loadAt, opL_tmp hp, SV.val, SC.val, Instr.sureAddr, Sem.run_bind, Sem.run_pure, Result.andThen_ok, loadVar, h1, if_true, h2, hload]
theorem rd_at {α : Type} {d : Kn α} {h : Hp} {xs : List α} {a : Addr} {n c : Nat} (hr : rdRow d h xs (.slice (some a) n c)) {i : Nat} {x : α} (hx : xs[i]? = some x) :
  ∃ cs, d.rd h x cs ∧ ∀ j u, cs[j]? = some u → cellH h ((a.add (i * d.sz)).add j) = some u := by
 obtain ⟨A, c', hv, _, _, hel⟩ := hr
 cases hv
 obtain ⟨cs, h1, h2⟩ := hel a rfl i x hx
 exact ⟨cs, h1, fun j u hu => by rw [add_add]; exact h2 j u hu⟩
theorem rd_some {α : Type} {d : Kn α} {h : Hp} {xs : List α} {A : Option Addr} {n c : Nat} (hr : rdRow d h xs (.slice A n c)) {i : Nat} (hi : i < n) : ∃ a, A = some a := by
 obtain ⟨A', c', hv, _, hne, _⟩ := hr
 cases hv
 exact hne (by omega)
theorem rd_sc {α : Type} {f : α → Value} {hf : ∀ x, (f x).oneCell' = true} {h : Hp} {xs : List α} {a : Addr} {n c : Nat} (hr : rdRow (kVal f hf) h xs (.slice (some a) n c)) {i : Nat} (hi : i < xs.length) : cellH h (a.add (i * 1)) = some (f xs[i]) := by
 obtain ⟨cs, h1, h2⟩ := rd_at hr (List.getElem?_eq_getElem hi)
 have h1 : cs = [f xs[i]] := h1
 subst h1
 have := h2 0 _ rfl
 rw [add_add, Nat.add_zero] at this
 exact this
end
end Go.Proofs.YtgleoebogikooaaGreat.Sx
namespace Go.Proofs.YtgleoebogikooaaGreat.Sx
set_option linter.unusedVariables false
set_option linter.unusedSimpArgs false
open Go.RowKit
def infoSz (P : Program) (t : Nat) : Option Nat :=
 match P.info? t with
 | some i => some i.size
 | none => none
def splice (cs : List Value) (o : Nat) (news : List Value) : List Value := cs.take o ++ news ++ cs.drop (o + news.length)
theorem splice_all {cs news : List Value} (h : news.length = cs.length) : splice cs 0 news = news := by
 simp [splice, h]
theorem splice_at {cs news : List Value} {o : Nat} (h : o + news.length ≤ cs.length) (j : Nat) : (splice cs o news)[j]? = if o ≤ j ∧ j < o + news.length then news[j - o]? else cs[j]? := by
 unfold splice
 by_cases h1 : j < o
 ·rw [if_neg (by omega), List.append_assoc, List.getElem?_append_left (by simp; omega), List.getElem?_take_of_lt h1]
 ·by_cases h2 : j < o + news.length
  ·rw [if_pos ⟨by omega, h2⟩, List.getElem?_append_left (by simp; omega), List.getElem?_append_right (by simp; omega)]
   simp only [List.length_take]
   rw [show min o cs.length = o by omega]
  ·rw [if_neg (by omega), List.getElem?_append_right (by simp; omega)]
   simp only [List.length_append, List.length_take, List.getElem?_drop]
   congr 1
   omega
section
variable {C : Cx} {F : List HA}
theorem store_part {α : Type} {d : Kn α} {xs : List α} {y : α} {A : List HA} {v : Value} {st : St} {tp T ty e i o g n c : Nat} {x : Operand} {dst : Option Tmp} {rg' : Rg} {sv : SV} {ad : Addr} {news : List Value}
  (he : atB C.B C.fn.ntmps st false = some (.store T (.tmp tp) x, ty, dst, rg')) (hT : infoSz C.P T = some news.length) (hp : lk st.tm tp = some (.one (.v (.pointer (some ad))))) (hv : v = .slice (some ⟨g, 0, none⟩) n c)
  (had : ad = (⟨g, 0, none⟩ : Addr).add (i * d.sz + o)) (hx : opv st.tm x = some sv) (hnews : cellsV sv.cells = some news) (hone : ∀ u ∈ news, u.oneCell' = true) (hi : i < xs.length) (ho : o + news.length ≤ d.sz)
  (hy : ∀ (h : Hp) (S1 S2 : Nat → Prop) cs, d.ow h S1 (xs[i]'hi) cs → sepL A h S2 → (∀ b, S1 b → ¬ S2 b) → d.ow h (fun b => S1 b ∨ S2 b) y (splice cs o news))
  (h : Holds C (rowA e d (xs.set i y) v :: F) ⟨rg', st.K, delO st.tm dst, st.lb⟩) : Holds C ((rowA e d xs v :: A) ++ F) st := by
 refine skip_at false he (fun L w hs => ?_)
 obtain ⟨S, ⟨S1, S2, a1, a2, a3, hrow, hA⟩, hS, hmut⟩ := hs.mut
 obtain ⟨A0, c0, hv0, hle, hmax, hcase⟩ := owRow_iff.1 (rowA_holds.1 hrow)
 rw [hv] at hv0
 obtain ⟨rfl, rfl, rfl⟩ : A0 = some ⟨g, 0, none⟩ ∧ n = xs.length ∧ c = c0 := by
  simp only [Value.slice.injEq] at hv0
  exact ⟨hv0.1.symm, hv0.2.1, hv0.2.2⟩
 rcases hcase with h0 | ⟨g', cells, hg', hSg, hg, hcs, T', t1, t2, t3⟩
 ·omega
 cases hg'
 have hbig : i * d.sz + o + news.length ≤ cells.size := by
  rw [hcs]
  have h3 : (i + 1) * d.sz ≤ c * d.sz := Nat.mul_le_mul_right _ (by omega)
  rw [Nat.add_mul] at h3
  omega
 have hst := run_storeCells_at C.P g (i * d.sz + o) e news 0 cells w hg (by simpa using hbig) hone
 simp only [Nat.add_zero] at hst
 refine ⟨_, st.lb, w.setRow g (cells.toList.take (i * d.sz + o) ++ news ++ cells.toList.drop (i * d.sz + o + news.length)).toArray, ?_, fun hk => by (cases hk), ?_, h⟩
 ·unfold infoSz at hT
  split at hT
  ·rename_i inf hinf
   have hsize := Option.some.inj hT
   have e1 : opL L st.tm x = sv.val L := opL_v hx
   have e2 : (sv.val L).cells = news.toArray := by rw [SV.cells_val, cellsV_val hnews L]
   have e3 : (news.toArray).size = inf.size := by rw [hsize]; simp
   have ep : opL L st.tm (.tmp tp) = .pointer (some ad) := opL_tmp hp
   simp only [opOf, execOp, Instr.storeAt, ep, e1, Instr.sureAddr, Sem.run_bind, Sem.run_pure, Result.andThen_ok, storeVar, run_size hinf, e2, e3, ne_eq, not_true_eq_false, if_false, had, add_at, Nat.zero_add, hst]
  ·cases hT
 ·have hsetb : ∀ b, b ≠ g → (w.setRow g (cells.toList.take (i * d.sz + o) ++ news ++ cells.toList.drop (i * d.sz + o + news.length)).toArray).heap[b]? = w.heap[b]? := fun b hb => setRow_other w g b _ hb
  refine hmut _ [rowA e d (xs.set i y) v] rfl rfl rfl (by simp [World.setRow]) (fun b _ hb => hsetb b (fun e0 => hb (e0 ▸ a1 g hSg))) ?_
  refine ⟨_, fun _ => False, fun _ hb => hb, fun _ hb => hb.elim, fun _ _ hb => hb, rowA_holds.2 ?_, trivial⟩
  refine owRow_iff.2 ⟨some ⟨g, 0, none⟩, c, by rw [hv, List.length_set], by rw [List.length_set]; exact hle, hmax, .inr ⟨g, _, rfl, .inl (a1 g hSg), setRow_heap w g cells _ e _ hg, ?_, ?_⟩⟩
  ·simp only [List.size_toArray, List.length_append, List.length_take, List.length_drop, Array.length_toList]
   omega
  ·refine ⟨fun k b => if k = i then T' i b ∨ S2 b else T' k b, fun k b hb => ?_, fun k l b hne hk hl => ?_, fun k z hz => ?_⟩
   ·by_cases hk : k = i
    ·simp only [hk, if_true] at hb
     rcases hb with hb | hb
     ·exact ⟨.inl (a1 b (t1 i b hb).1), (t1 i b hb).2⟩
     ·exact ⟨.inl (a2 b hb), fun e0 => a3 g hSg (e0 ▸ hb)⟩
    ·simp only [hk, if_false] at hb
     exact ⟨.inl (a1 b (t1 k b hb).1), (t1 k b hb).2⟩
   ·by_cases hki : k = i
    ·have hli : l ≠ i := fun e0 => hne (hki.trans e0.symm)
     simp only [hki, hli, if_true, if_false] at hk hl
     rcases hk with hk | hk
     ·exact t2 i l b (fun e0 => hli e0.symm) hk hl
     ·exact a3 b (t1 l b hl).1 hk
    ·simp only [hki, if_false] at hk
     by_cases hli : l = i
     ·simp only [hli, if_true] at hl
      rcases hl with hl | hl
      ·exact t2 k i b hki hk hl
      ·exact a3 b (t1 k b hk).1 hl
     ·simp only [hli, if_false] at hl
      exact t2 k l b hne hk hl
   ·have hloc : ∀ {S0 : Nat → Prop} {x0 : α} {cs0 : List Value}, (∀ b, S0 b → b ≠ g) → d.ow w.heap S0 x0 cs0 → d.ow (w.setRow g (cells.toList.take (i * d.sz + o) ++ news ++ cells.toList.drop (i * d.sz + o + news.length)).toArray).heap S0 x0 cs0 :=
     fun hb ho => d.loc (fun b hb0 _ => hsetb b (hb b hb0)) ho
    have hcell : ∀ q, (cells.toList.take (i * d.sz + o) ++ news ++ cells.toList.drop (i * d.sz + o + news.length)).toArray[q]? = if i * d.sz + o ≤ q ∧ q < i * d.sz + o + news.length then news[q - (i * d.sz + o)]? else cells[q]? := fun q => by
     have := splice_at (cs := cells.toList) (news := news) (o := i * d.sz + o) (by simpa using hbig) q
     unfold splice at this
     simp only [List.getElem?_toArray]
     rw [this]
     simp
    by_cases hk : k = i
    ·subst hk
     rw [List.getElem?_set_self hi] at hz
     obtain rfl := Option.some.inj hz
     obtain ⟨cs, h3, h4⟩ := t3 k _ (List.getElem?_eq_getElem hi)
     have hlen := d.len (d.read h3)
     refine ⟨splice cs o news, ?_, fun j u hu => ?_⟩
     ·simp only [if_true]
      exact hy _ _ _ cs (hloc (fun b hb => (t1 k b hb).2) h3) (sepL_loc (fun b hb _ => hsetb b (fun e0 => a3 g hSg (e0 ▸ hb))) hA) (fun b hb hc => a3 b (t1 k b hb).1 hc)
     ·refine (hcell (k * d.sz + j)).trans ?_
      rw [splice_at (by omega)] at hu
      by_cases hj : o ≤ j ∧ j < o + news.length
      ·rw [if_pos hj] at hu
       rw [if_pos (by omega), show k * d.sz + j - (k * d.sz + o) = j - o by omega]
       exact hu
      ·rw [if_neg hj] at hu
       rw [if_neg (by omega)]
       exact h4 j u hu
    ·rw [List.getElem?_set_ne (fun e0 => hk e0.symm)] at hz
     obtain ⟨cs, h3, h4⟩ := t3 k z hz
     have hlen := d.len (d.read h3)
     refine ⟨cs, by simpa only [hk, if_false] using hloc (fun b hb => (t1 k b hb).2) h3, fun j u hu => ?_⟩
     have hj : j < d.sz := by rw [← hlen]; exact (List.getElem?_eq_some_iff.1 hu).1
     refine (hcell (k * d.sz + j)).trans ?_
     rw [if_neg ?_]
     ·exact h4 j u hu
     ·rcases Nat.lt_or_gt_of_ne hk with hlt | hgt
      ·have h5 : (k + 1) * d.sz ≤ i * d.sz := Nat.mul_le_mul_right _ hlt
       rw [Nat.add_mul] at h5
       omega
      ·have h5 : (i + 1) * d.sz ≤ k * d.sz := Nat.mul_le_mul_right _ hgt
       rw [Nat.add_mul] at h5
       omega
theorem store_el {α : Type} {d : Kn α} {xs : List α} {y : α} {A : List HA} {v : Value} {st : St} {tp T ty e i g n c : Nat} {x : Operand} {dst : Option Tmp} {rg' : Rg} {sv : SV} {ad : Addr} {news : List Value}
  (he : atB C.B C.fn.ntmps st false = some (.store T (.tmp tp) x, ty, dst, rg')) (hT : infoSz C.P T = some d.sz) (hp : lk st.tm tp = some (.one (.v (.pointer (some ad))))) (hv : v = .slice (some ⟨g, 0, none⟩) n c)
  (had : ad = (⟨g, 0, none⟩ : Addr).add (i * d.sz)) (hx : opv st.tm x = some sv) (hnews : cellsV sv.cells = some news) (hi : i < xs.length)
  (hy : ∀ (h : Hp) (S : Nat → Prop), sepL A h S → d.ow h S y news)
  (h : Holds C (rowA e d (xs.set i y) v :: F) ⟨rg', st.K, delO st.tm dst, st.lb⟩) : Holds C ((rowA e d xs v :: A) ++ F) st := by
 refine h_conseq (fun L w hs => ⟨_, hs, ?_⟩)
 obtain ⟨_, _, S, _, hF0⟩ := hs
 obtain ⟨S1, _, _, _, _, ⟨_, S2, _, _, _, _, hA0⟩, _⟩ := sepL_append.1 hF0
 have h1 := hy w.heap S2 hA0
 have hlen := d.len (d.read h1)
 refine store_part (o := 0) he (by rw [hlen]; exact hT) hp hv (by simpa using had) hx hnews (d.one (d.read h1)) hi (by omega) (fun h S1 S2 cs hcs hA hd => ?_) h
 rw [splice_all (by rw [hlen, d.len (d.read hcs)])]
 exact d.mono (fun b hb => .inr hb) (hy h S2 hA)
def zeroOf (P : Program) (e : Nat) : Option (List Value) :=
 match P.info? e with
 | some i => match i.zero with
  | some z => some z.cells.toList
  | none => none
 | none => none
theorem make_at {α : Type} {d : Kn α} (n : Nat) (z0 : α) {st : St} {t ty e by_ : Nat} {ol oc : Operand} {dst : Option Tmp} {rg' : Rg} {k k' : IntKind} {jl jc : Int} (kk : Bool) {zc : List Value}
  (he : atB C.B C.fn.ntmps st kk = some (.makeSlice t ol oc, ty, dst, rg')) (hT : rowTy C.P t = some (e, d.sz, by_)) (hz : zeroOf C.P e = some zc) (hl : opv st.tm ol = some (.one (.v (.int k jl)))) (hc : opv st.tm oc = some (.one (.v (.int k' jc))))
  (hjl : jl = (n : Int)) (hjc : jc = (n : Int)) (hb : n * by_ ≤ 281474976710656) (hn : n ≤ maxLen) (hz0 : ∀ (h : Hp), d.ow h (fun _ => False) z0 zc)
  (h : ∀ g, Holds C (rowA e d (List.replicate n z0) (.slice (some ⟨g, 0, none⟩) n n) :: F) ⟨rg', st.K, ptO st.tm dst (.one (.v (.slice (some ⟨g, 0, none⟩) n n))), st.lb⟩) : Holds C F st := by
 refine prim_at kk he (fun L w hs => ?_)
 obtain ⟨i, z, hu, hi, hz', hsz, hzs, hby, h0⟩ := rowTy_spec hT
 have hzc : z.cells.toList = zc := by
  simp only [zeroOf, hi, hz', Option.some.injEq] at hz
  exact hz
 subst hjl hjc hby
 have hb' : (i.bytes : Int) * (n : Int) ≤ 281474976710656 := by
  have h1 : ((i.bytes * n : Nat) : Int) ≤ 281474976710656 := by rw [Nat.mul_comm] at hb; omega
  rwa [Int.natCast_mul] at h1
 have hn' : (n : Int) ≤ 9223372036854775807 := by have h2 := hn; simp [maxLen] at h2; omega
 have hr := run_make (P := C.P) w t e i z hu hi hz' k k' n n (by omega) (Int.le_refl _) hb' hn'
 simp only [Int.toNat_natCast] at hr
 have hfr : Fresh w (w.alloc (.cells (madeCells z.cells (n * i.size)) e)) [rowA e d (List.replicate n z0) (.slice (some ⟨w.heap.size, 0, none⟩) n n)] := by
  refine ⟨(Below.refl _ _).alloc (Nat.le_refl _) _, fun b => b = w.heap.size, fun b hb => ?_, fun b => b = w.heap.size, fun _ => False, fun _ hb => hb, fun _ hb => hb.elim, fun _ _ hb => hb, rowA_holds.2 (owRow_iff.2 ⟨some ⟨w.heap.size, 0, none⟩, n, by simp, by simp, hn, .inr ⟨w.heap.size, _, rfl, rfl, heap_alloc_new w _, ?_, ?_⟩⟩), trivial⟩
  ·subst hb
   refine ⟨Nat.le_refl _, ?_⟩
   show _ < (w.heap.push _).size
   simp
  ·rw [size_madeCells, hsz]
  ·refine ⟨fun _ _ => False, fun _ _ hb => hb.elim, fun _ _ _ _ hb => hb.elim, fun q x hx => ⟨zc, ?_, fun j u hu => ?_⟩⟩
   ·have : x = z0 := by
     have := List.mem_of_getElem? hx
     exact (List.mem_replicate.1 this).2
    subst this
    exact hz0 _
   ·have hq : q < n := by
     have := (List.getElem?_eq_some_iff.1 hx).1
     simpa using this
    have hj : j < z.cells.size := by
     rw [← hzc] at hu
     have := (List.getElem?_eq_some_iff.1 hu).1
     simpa using this
    have hlt : q * d.sz + j < n * i.size := by
     rw [hsz]
     have h3 : (q + 1) * d.sz ≤ n * d.sz := Nat.mul_le_mul_right _ hq
     rw [Nat.add_mul] at h3
     omega
    have hmod : (q * d.sz + j) % z.cells.size = j := by
     rw [hzs, Nat.mul_comm, Nat.mul_add_mod, Nat.mod_eq_of_lt (by omega)]
    rw [← hzc] at hu
    simp only [madeCells, Array.getElem?_map, Array.getElem?_range, hlt, if_true, Option.map_some, hmod]
    rw [getElem!_pos z.cells j hj, ← hu]
    simp [hj]
 refine ⟨.one (.v (.slice (some ⟨w.heap.size, 0, none⟩) n n)), _, st.lb, _, ?_, fun _ b hb => Below.heap_alloc w _ b hb, hs.fresh hfr, h w.heap.size⟩
 simp only [opOf, execOp, opL_v hl, opL_v hc, SV.val, SC.val, hr, Sem.run_bind, Result.andThen_ok, Sem.run_pure]
end
end Go.Proofs.YtgleoebogikooaaGreat.Sx
namespace Go.Proofs.YtgleoebogikooaaGreat.Sx
set_option linter.unusedVariables false
set_option linter.unusedSimpArgs false
open Go.RowKit
section
variable {C : Cx} {F : List HA}
def bndOk (tm : List (Nat × SV)) (o : Option Operand) (l dflt : Nat) : Prop :=
 match o with
 | none => l = dflt
 | some x => ∃ k, opv tm x = some (.one (.v (.int k (l : Int))))
theorem run_bound {P : Program} {k : IntKind} {l y : Nat} {code : BoundsCode} (h : l ≤ y) (w : World) : (Instr.sliceBound (.int k (l : Int)) y code).run P w = .ok l w := by
 have hc : (0 : Int) ≤ (l : Int) ∧ (l : Int) ≤ (y : Int) := by omega
 simp only [Instr.sliceBound, asIntOf, Sem.run_bind, Sem.run_pure, Result.andThen_ok, hc, and_self, if_true, Int.toNat_natCast]
theorem slice_at {st : St} (ip : Nat) {l h m n c tx t ty sz : Nat} {lo hi mx : Option Operand} {dst : Option Tmp} {rg' : Rg} {A : Option Addr}
  (he : atP C.B C.fn.ntmps st ip false = some (.slice t (.tmp tx) lo hi mx, ty, dst, rg')) (hT : elSz C.P t = some sz) (hx : lk st.tm tx = some (.one (.v (.slice A n c))))
  (hlo : bndOk st.tm lo l 0) (hhi : bndOk st.tm hi h n) (hmx : bndOk st.tm mx m c) (hm : mx.isSome = true → hi.isSome = true) (h1 : l ≤ h) (h2 : h ≤ m) (h3 : m ≤ c)
  (hh : Holds C F ⟨rg', st.K, ptO st.tm dst (.one (.v (.slice (if m = l then A else A.map (·.add (l * sz))) (h - l) (m - l)))), st.lb⟩) : Holds C F st := by
 refine pure_at ip false he (fun L w hs => ?_)
 refine ⟨_, F, fun w' _ => ?_, hs, hh⟩
 unfold elSz at hT
 split at hT
 ·rename_i e hu
  split at hT
  ·rename_i i hinf
   cases hT
   have hsz : (sizeOf e).run C.P w' = .ok i.size w' := run_size hinf w'
   have hb : (Instr.sliceBounds true n c (lo.map (opL L st.tm)) (hi.map (opL L st.tm)) (mx.map (opL L st.tm))).run C.P w' = .ok (l, h, m) w' := by
    cases mx with
    | none =>
     have hmx : m = c := hmx
     subst hmx
     cases hi with
     | none =>
      have hhi : h = n := hhi
      subst hhi
      cases lo with
      | none =>
       have hlo : l = 0 := hlo
       subst hlo
       simp [Instr.sliceBounds]
      | some x =>
       obtain ⟨k, hk⟩ := hlo
       simp [Instr.sliceBounds, opL_v hk, SV.val, SC.val, run_bound h1]
     | some y =>
      obtain ⟨k2, hk2⟩ := hhi
      cases lo with
      | none =>
       have hlo : l = 0 := hlo
       subst hlo
       simp [Instr.sliceBounds, opL_v hk2, SV.val, SC.val, run_bound h2]
      | some x =>
       obtain ⟨k, hk⟩ := hlo
       simp [Instr.sliceBounds, opL_v hk, opL_v hk2, SV.val, SC.val, run_bound h1, run_bound h2]
    | some z =>
     obtain ⟨k3, hk3⟩ := hmx
     cases hi with
     | none => cases hm rfl
     | some y =>
      obtain ⟨k2, hk2⟩ := hhi
      cases lo with
      | none =>
       have hlo : l = 0 := hlo
       subst hlo
       simp [Instr.sliceBounds, opL_v hk2, opL_v hk3, SV.val, SC.val, run_bound h2, run_bound h3]
      | some x =>
       obtain ⟨k, hk⟩ := hlo
       simp [Instr.sliceBounds, opL_v hk, opL_v hk2, opL_v hk3, SV.val, SC.val, run_bound h1, run_bound h2, run_bound h3]
   simp only [opOf, execOp, Instr.sliceAt, Sem.run_bind, run_underlying hu, Result.andThen_ok, Instr.slice, opL_tmp hx, SV.val, SC.val, hb, hsz, Sem.run_pure]
  ·cases hT
 ·cases hT
def Cap.sub (k g : Nat) : Cap → Cap
 | .p h off => bif Nat.beq h k then .v (.pointer (some ⟨g, off, none⟩)) else .p h off
 | .v x => .v x
def SC.sub (k g : Nat) : SC → SC
 | .ptr h off => bif Nat.beq h k then .v (.pointer (some ⟨g, off, none⟩)) else .ptr h off
 | .sl h off n c => bif Nat.beq h k then .v (.slice (some ⟨g, off, none⟩) n c) else .sl h off n c
 | .fn f caps => .fn f (caps.map (Cap.sub k g))
 | c => c
def SV.sub (k g : Nat) : SV → SV
 | .one c => .one (c.sub k g)
 | .agg cs => .agg (cs.map (SC.sub k g))
def subTm (k g : Nat) : List (Nat × SV) → List (Nat × SV)
 | [] => []
 | (t, v) :: r => (t, v.sub k g) :: subTm k g r
theorem getD_last {L : List Nat} {g h : Nat} (hw : Nat.blt h (L.length + 1) = true) (hk : Nat.beq h L.length = false) : (L ++ [g]).getD h 0 = L.getD h 0 := by
 have h1 : h < L.length + 1 := by simpa [Nat.blt_eq] using hw
 have h2 : h ≠ L.length := fun e => by rw [e, Nat.beq_refl] at hk; cases hk
 exact getD_app (by simp [Nat.blt_eq]; omega)
theorem Cap.sub_val {L : List Nat} {g : Nat} {c : Cap} (hw : c.wf (L.length + 1) = true) : (c.sub L.length g).val L = c.val (L ++ [g]) := by
 cases c with
 | v x => rfl
 | p h off =>
  simp only [Cap.sub]
  cases hk : Nat.beq h L.length with
  | true => simp only [cond_true, Cap.val, Nat.eq_of_beq_eq_true hk, last_at]
  | false => simp only [cond_false, Cap.val, getD_last hw hk]
theorem SC.sub_val {L : List Nat} {g : Nat} {c : SC} (hw : c.wf (L.length + 1) = true) : (c.sub L.length g).val L = c.val (L ++ [g]) := by
 cases c with
 | v x => rfl
 | bo b => rfl
 | ptr h off =>
  simp only [SC.sub]
  cases hk : Nat.beq h L.length with
  | true => simp only [cond_true, SC.val, Nat.eq_of_beq_eq_true hk, last_at]
  | false => simp only [cond_false, SC.val, getD_last hw hk]
 | sl h off n c =>
  simp only [SC.sub]
  cases hk : Nat.beq h L.length with
  | true => simp only [cond_true, SC.val, Nat.eq_of_beq_eq_true hk, last_at]
  | false => simp only [cond_false, SC.val, getD_last hw hk]
 | fn f caps =>
  simp only [SC.sub, SC.val, List.map_map]
  congr 2
  exact List.map_congr_left fun c hc => Cap.sub_val (List.all_eq_true.1 hw c hc)
theorem SV.sub_val {L : List Nat} {g : Nat} {c : SV} (hw : c.wf (L.length + 1) = true) : (c.sub L.length g).val L = c.val (L ++ [g]) := by
 cases c with
 | one c => exact SC.sub_val hw
 | agg cs =>
  simp only [SV.sub, SV.val, List.map_map]
  congr 2
  exact List.map_congr_left fun c hc => SC.sub_val (List.all_eq_true.1 hw c hc)
theorem lk_sub {k g t : Nat} {v : SV} : ∀ {tm : List (Nat × SV)}, lk (subTm k g tm) t = some v → ∃ u, lk tm t = some u ∧ v = u.sub k g
 | [], h => by cases h
 | (s, u) :: r, h => by
  simp only [subTm, lk] at h ⊢
  cases hst : Nat.beq s t with
  | true =>
   rw [hst] at h
   obtain rfl := Option.some.inj h
   exact ⟨u, rfl, rfl⟩
  | false => rw [hst] at h; exact lk_sub h
theorem export_last {rg : Rg} {K : List KI} {tm : List (Nat × SV)} {lb : List LB} {k : Nat} {cells : List SC} {ty : Nat} {vals : List Value} {A : List HA} {B : Nat → List HA} (lb' : List LB) (hlb : lb = lb' ++ [⟨cells, ty⟩]) (hk : k = lb'.length) (hc : cellsV cells = some vals)
  (hw : wfAll (k + 1) tm lb' = true) (hw2 : lb'.all (fun b => b.cells.all (SC.wf k)) = true) (hn : Nat.ble C.L0.length k = true)
  (hB : ∀ (h : Hp) (S : Nat → Prop) g, sepL A h S → ¬ S g → h[g]? = some (.cells vals.toArray ty (0, 0)) → sepL (B g) h (fun b => S b ∨ b = g))
  (hh : ∀ g, Holds C (B g ++ F) ⟨capRg k rg, K, subTm k g tm, lb'⟩) : Holds C (A ++ F) ⟨rg, K, tm, lb⟩ := by
 intro L w1 w a hs ht hr
 have hr := regOK_cap (n := k) hr
 refine runR_cap (n := k) ?_
 subst hlb hk
 obtain ⟨⟨henv, hpre⟩, ⟨l1, l2, l3⟩, S, hS, hF⟩ := hs
 have hn := Nat.le_of_ble_eq_true hn
 have hlen : L.length = lb'.length + 1 := by rw [← l1]; simp
 obtain ⟨L', g, rfl⟩ : ∃ L' g, L = L' ++ [g] := by
  refine ⟨L.dropLast, L.getLast (fun e => by rw [e] at hlen; simp at hlen), ?_⟩
  exact (List.dropLast_concat_getLast _).symm
 have hlen' : L'.length = lb'.length := by simpa using hlen
 rw [List.take_left' hlen'] at hr
 obtain ⟨h3, h4⟩ : tm.all (fun p => p.2.wf (lb'.length + 1)) = true ∧ lb'.all (fun b => b.cells.all (SC.wf (lb'.length + 1))) = true := by simpa only [wfAll, Bool.and_eq_true] using hw
 have hnd := List.nodup_append.1 l2
 have hgn : g ∉ L' := fun hm => hnd.2.2 g hm g (by simp) rfl
 have hlast := l3 lb'.length ⟨cells, ty⟩ (by simp)
 rw [show (L' ++ [g]).getD lb'.length 0 = g by rw [← hlen', last_at], cellsV_val hc] at hlast
 have hglt := (Array.getElem?_eq_some_iff.1 hlast).1
 obtain ⟨S1, S2, b1, b2, b3, hA, hF⟩ := sepL_append.1 hF
 have hSg : ∀ b, S b → b ≠ g := fun b hb e => (hS b hb).2 (by rw [e]; simp)
 refine hh g L' w1 w a ⟨⟨henv, ?_⟩, ⟨hlen'.symm, hnd.1, fun i b hb => ?_⟩, fun b => S b ∨ b = g, fun b hb => ?_, sepL_append.2 ⟨fun b => S1 b ∨ b = g, S2, fun b hb => hb.imp (b1 b) id, fun b hb => .inl (b2 b hb), fun b hb h2 => ?_, hB _ S1 g hA (fun h5 => hSg g (b1 g h5) rfl) hlast, hF⟩⟩ ⟨ht.1, ht.2.1, fun t v hv => ?_⟩ hr
 ·obtain ⟨M, hM⟩ := hpre
  refine ⟨M.dropLast, ?_⟩
  have : M ≠ [] := fun e => by
   rw [e, List.append_nil] at hM
   rw [hM] at hn
   simp at hn
   omega
  have h5 : C.L0 ++ (M.dropLast ++ [M.getLast this]) = L' ++ [g] := by rw [List.dropLast_concat_getLast]; exact hM
  rw [← List.append_assoc] at h5
  exact (List.append_inj' h5 rfl).1
 ·have hi : i < lb'.length := (List.getElem?_eq_some_iff.1 hb).1
  have h5 := l3 i b (by rw [List.getElem?_append_left hi]; exact hb)
  rw [getD_app (by simp [Nat.blt_eq]; omega)] at h5
  rw [h5]
  have : b.cells.map (SC.val (L' ++ [g])) = b.cells.map (SC.val L') := List.map_congr_left fun c hc => SC.val_app (by
   rw [hlen']
   exact List.all_eq_true.1 (List.all_eq_true.1 hw2 b (List.mem_of_getElem? hb)) c hc)
  rw [this]
 ·rcases hb with hb | rfl
  ·exact ⟨(hS b hb).1, fun hm => (hS b hb).2 (List.mem_append_left _ hm)⟩
  ·exact ⟨hglt, hgn⟩
 ·rcases hb with hb | rfl
  ·exact b3 b hb h2
  ·exact hSg _ (b2 _ h2) rfl
 ·obtain ⟨u, hu, rfl⟩ := lk_sub hv
  rw [← hlen', SV.sub_val (by rw [hlen']; exact List.all_eq_true.1 h3 _ (lk_mem hu))]
  exact ht.2.2 t u hu
theorem export_row {α : Type} {d : Kn α} (xs : List α) {rg : Rg} {K : List KI} {tm : List (Nat × SV)} {lb : List LB} {k : Nat} {cells : List SC} {ty : Nat} {vals : List Value} {A : List HA} (lb' : List LB) (hlb : lb = lb' ++ [⟨cells, ty⟩]) (hk : k = lb'.length) (hc : cellsV cells = some vals)
  (hw : wfAll (k + 1) tm lb' = true) (hw2 : lb'.all (fun b => b.cells.all (SC.wf k)) = true) (hn : Nat.ble C.L0.length k = true) (hvl : vals.length = xs.length * d.sz) (hmax : xs.length ≤ maxLen) (hels : ∀ (h : Hp) (S : Nat → Prop), sepL A h S → els d h S xs (fun k => vals[k]?))
  (hh : ∀ g, Holds C (rowA ty d xs (.slice (some ⟨g, 0, none⟩) xs.length xs.length) :: F) ⟨capRg k rg, K, subTm k g tm, lb'⟩) : Holds C (A ++ F) ⟨rg, K, tm, lb⟩ := by
 refine export_last (B := fun g => [rowA ty d xs (.slice (some ⟨g, 0, none⟩) xs.length xs.length)]) lb' hlb hk hc hw hw2 hn (fun h S g hA hSg hg => ?_) hh
 refine ⟨_, fun _ => False, fun _ hb => hb, fun _ hb => hb.elim, fun _ _ hb => hb, rowA_holds.2 (owRow_iff.2 ⟨some ⟨g, 0, none⟩, xs.length, rfl, Nat.le_refl _, hmax, .inr ⟨g, _, rfl, .inr rfl, hg, by simpa using hvl, ?_⟩⟩), trivial⟩
 exact els_mono (fun b hb => ⟨.inl hb, fun e => hSg (e ▸ hb)⟩) (els_cells (hels h S hA) fun k _ u hu => by simpa using hu)
theorem export_lit {α : Type} {d : Kn α} (xs : List α) {rg : Rg} {K : List KI} {tm : List (Nat × SV)} {lb : List LB} {cells : List SC} {ty : Nat} {vals : List Value} {A : List HA} (hlb : lb.getLast? = some ⟨cells, ty⟩) (hc : cellsV cells = some vals)
  (hw : wfAll (lb.dropLast.length + 1) tm lb.dropLast = true) (hw2 : lb.dropLast.all (fun b => b.cells.all (SC.wf lb.dropLast.length)) = true) (hn : Nat.ble C.L0.length lb.dropLast.length = true) (hvl : vals.length = xs.length * d.sz) (hmax : xs.length ≤ maxLen) (hels : ∀ (h : Hp) (S : Nat → Prop), sepL A h S → els d h S xs (fun k => vals[k]?))
  (hh : ∀ g, Holds C (rowA ty d xs (.slice (some ⟨g, 0, none⟩) xs.length xs.length) :: F) ⟨capRg lb.dropLast.length rg, K, subTm lb.dropLast.length g tm, lb.dropLast⟩) : Holds C (A ++ F) ⟨rg, K, tm, lb⟩ :=
 export_row xs lb.dropLast (by
  have hne : lb ≠ [] := fun e => by rw [e] at hlb; cases hlb
  rw [List.getLast?_eq_some_getLast hne] at hlb
  have h1 := Option.some.inj hlb
  rw [← h1, List.dropLast_concat_getLast]) rfl hc hw hw2 hn hvl hmax hels hh
end
end Go.Proofs.YtgleoebogikooaaGreat.Sx
namespace Go.Proofs.YtgleoebogikooaaGreat.Sx
set_option linter.unusedVariables false
set_option linter.unusedSimpArgs false
abbrev vI (x : Int) : SV := .one (.v (.int .i64 x))
abbrev vS (A : Option Addr) (n c : Nat) : SV := .one (.v (.slice A n c))
abbrev vP (a : Addr) : SV := .one (.v (.pointer (some a)))
abbrev vL (b : Bool) : SV := .one (.v (.bool b))
abbrev vB (b : Bool) : SV := .one (.bo b)
abbrev vR (h o : Nat) : SV := .one (.ptr h o)
abbrev cI (x : Int) : SC := .v (.int .i64 x)
abbrev cS (A : Option Addr) (n c : Nat) : SC := .v (.slice A n c)
abbrev cF (b : Nat) : SC := .v (.float .f64 b)
abbrev kCd (p : List Bool) : KI := .code p
abbrev kLp (p : List Bool) : KI := .loop p
abbrev tmpO (t : Nat) : Operand := .tmp t
def bitL : Nat → Nat → List Bool
 | 0, _ => []
 | n + 1, k => Nat.beq (k % 2) 1 :: bitL n (k / 2)
theorem cell_deep {h : Hp} {a b : Addr} {v : Value} (he : a = b) (hc : cellH h b = some v) : cellH h a = some v := by rw [he]; exact hc
end Go.Proofs.YtgleoebogikooaaGreat.Sx
namespace Go.Proofs.YtgleoebogikooaaGreat.Sx
set_option linter.unusedVariables false
set_option linter.unusedSimpArgs false
open Go.RowKit
structure Mut (w w' : World) (S : Nat → Prop) (As : List HA) : Prop where
 os : w'.os = w.os
 tape : w'.tape = w.tape
 output : w'.output = w.output
 size : w.heap.size ≤ w'.heap.size
 keep : ∀ b, b < w.heap.size → ¬ S b → w'.heap[b]? = w.heap[b]?
 own : sepL As w'.heap (fun b => S b ∨ (w.heap.size ≤ b ∧ b < w'.heap.size))
def oldX (w0 : World) (S : Nat → Prop) : HA where
 holds h T := ∀ b, b < w0.heap.size → ¬ S b → T b ∧ h[b]? = w0.heap[b]?
 mono hs h b hb hn := ⟨hs b (h b hb hn).1, (h b hb hn).2⟩
 loc hs h b hb hn := ⟨(h b hb hn).1, by
  have h1 := (h b hb hn).2
  rw [hs b (h b hb hn).1 ((Array.getElem?_eq_some_iff.1 (h1.trans (Array.getElem?_eq_getElem hb))).1)]
  exact h1⟩
section
variable {C : Cx} {F : List HA} {lb : List LB} {L : List Nat} {w : World}
theorem SOK.outm {As : List HA} {S : Nat → Prop} (hs : SOK C (As ++ [oldX C.w0 S]) lb L w) : Mut C.w0 w S As := by
 obtain ⟨⟨h1, _⟩, _, T, hT, hF⟩ := hs
 obtain ⟨S1, S2, h3, h4, hd, hA, S3, S4, h5, _, _, hold, _⟩ := sepL_append.1 hF
 refine ⟨h1.os, h1.tape, h1.output, h1.size, fun b hb hn => (hold b hb hn).2, sepL_mono (fun b hb => ?_) hA⟩
 rcases Nat.lt_or_ge b C.w0.heap.size with hlt | hge
 ·by_cases hSb : S b
  ·exact .inl hSb
  ·exact absurd (h5 b (hold b hlt hSb).1) (hd b hb)
 ·exact .inr ⟨hge, (hT b (h3 b hb)).1⟩
theorem start_mut {A : List HA} {S : Nat → Prop} {w : World} (hA : sepL A w.heap S) (hS : ∀ b, S b → b < w.heap.size) : ∃ T : Nat → Prop, (∀ b, T b → b < w.heap.size ∧ b ∉ ([] : List Nat)) ∧ sepL (A ++ [oldX w S]) w.heap T :=
 ⟨fun b => b < w.heap.size, fun b hb => ⟨hb, by simp⟩, sepL_append.2 ⟨S, fun b => b < w.heap.size ∧ ¬ S b, hS, fun b hb => hb.1, fun b hb hn => hn.2 hb, hA, fun b => b < w.heap.size ∧ ¬ S b, fun _ => False, fun _ h => h, fun _ h => h.elim, fun _ _ h => h, fun b hb hn => ⟨⟨hb, hn⟩, rfl⟩, trivial⟩⟩
theorem SOK.oldx {w0 : World} {S : Nat → Prop} (hs : SOK C F lb L w) (n : Nat) (h : F[n]? = some (oldX w0 S)) : ∀ b, b < w0.heap.size → ¬ S b → w.heap[b]? = w0.heap[b]? := by
 obtain ⟨_, _, hA⟩ := hs.at_ n h
 exact fun b hb hn => (hA b hb hn).2
theorem call_mut {A : List HA} {st : St} {f : Nat} {as : List SV} {dst : Option Tmp} {rg' : Rg} (he : atC C.B C.fn.ntmps st false = some (f, as, dst, rg')) (hg : goesB C.P f = true)
  (h : ∀ (L : List Nat) (w : World) (S : Nat → Prop), SOK C (A ++ F) st.lb L w → sepL A w.heap S → (∀ b, S b → b < w.heap.size) → Calls C.P f (as.map (SV.val L)).toArray w fun e w' => ∃ (v : SV) (B : List HA), e = .returned (v.val L) ∧ Mut w w' S B ∧
   Holds C (B ++ F) ⟨rg', st.K, ptO st.tm dst v, st.lb⟩) : Holds C (A ++ F) st :=
 call_at false he hg fun L w hs => by
  obtain ⟨S, hA, hS, hmut⟩ := hs.mut
  refine (h L w S hs hA (fun b hb => (hS b hb).1)).mono ?_
  rintro e w' ⟨v, B, he, hm, hh⟩
  exact ⟨v, B ++ F, st.lb, he, fun hk => by (cases hk), hmut w' B hm.os hm.tape hm.output hm.size hm.keep hm.own, hh⟩
end
end Go.Proofs.YtgleoebogikooaaGreat.Sx
namespace Go.Proofs.YtgleoebogikooaaGreat.Sx
set_option linter.unusedVariables false
set_option linter.unusedSimpArgs false
open Go.RowKit
section
variable {α β : Type} {d : Kn α} {e : Nat} {C : Cx} {F : List HA} {st : St}
def holeA (e : Nat) (d : Kn α) (xs : List α) (i : Nat) (cs : List Value) (v : Value) : HA where
 holds h S := ∃ (c g : Nat) (cells : Array Value), v = .slice (some ⟨g, 0, none⟩) xs.length c ∧ xs.length ≤ c ∧ c ≤ maxLen ∧ S g ∧ h[g]? = some (.cells cells e (0, 0)) ∧ cells.size = c * d.sz ∧ i < xs.length ∧ cs.length = d.sz ∧ (∀ j u, cs[j]? = some u → cells[i * d.sz + j]? = some u) ∧
  ∃ T : Nat → Nat → Prop, (∀ k b, T k b → S b ∧ b ≠ g) ∧ (∀ k l b, k ≠ l → T k b → ¬ T l b) ∧ ∀ k x, k ≠ i → xs[k]? = some x → ∃ cs, d.ow h (T k) x cs ∧ ∀ j u, cs[j]? = some u → cells[k * d.sz + j]? = some u
 mono := fun hs ⟨c, g, cells, h1, h2, h3, h4, h5, h6, h7, h8, h9, T, t1, t2, t3⟩ => ⟨c, g, cells, h1, h2, h3, hs g h4, h5, h6, h7, h8, h9, T, fun k b hb => ⟨hs b (t1 k b hb).1, (t1 k b hb).2⟩, t2, t3⟩
 loc := fun hs ⟨c, g, cells, h1, h2, h3, h4, h5, h6, h7, h8, h9, T, t1, t2, t3⟩ => ⟨c, g, cells, h1, h2, h3, h4, (hs g h4 (Array.getElem?_eq_some_iff.1 h5).1).trans h5, h6, h7, h8, h9, T, t1, t2, fun k x hk hx => by
  obtain ⟨cs, a1, a2⟩ := t3 k x hk hx
  exact ⟨cs, d.loc (fun b hb => hs b (t1 k b hb).1) a1, a2⟩⟩
theorem focus {h : Hp} {S : Nat → Prop} {xs : List α} {v : Value} (ho : owRow e d h S xs v) {i : Nat} (hi : i < xs.length) : ∃ cs, sepL [elA d xs[i] cs, holeA e d xs i cs v] h S := by
 obtain ⟨A, c, hv, hle, hmax, hc⟩ := ho
 rcases hc with h0 | ⟨g, cells, rfl, hg, hcell, hsz, T, t1, t2, t3⟩
 ·omega
 obtain ⟨cs, a1, a2⟩ := t3 i _ (List.getElem?_eq_getElem hi)
 refine ⟨cs, T i, fun b => S b ∧ ¬ T i b, fun b hb => (t1 i b hb).1, fun b hb => hb.1, fun b hb hn => hn.2 hb, a1, fun b => S b ∧ ¬ T i b, fun _ => False, fun _ hb => hb, fun _ hb => hb.elim, fun _ _ hb => hb, ?_, trivial⟩
 refine ⟨c, g, cells, hv, hle, hmax, ⟨hg, fun hb => (t1 i g hb).2 rfl⟩, hcell, hsz, hi, d.len (d.read a1), a2, fun k b => T k b ∧ k ≠ i, fun k b hb => ⟨⟨(t1 k b hb.1).1, fun h2 => t2 k i b hb.2 hb.1 h2⟩, (t1 k b hb.1).2⟩, fun k l b hne hk hl => t2 k l b hne hk.1 hl.1, fun k x hk hx => ?_⟩
 obtain ⟨cs', b1, b2⟩ := t3 k x hx
 exact ⟨cs', d.mono (fun b hb => ⟨hb, hk⟩) b1, b2⟩
theorem unfocus {h : Hp} {S : Nat → Prop} {xs : List α} {v : Value} {i : Nat} {x : α} {cs : List Value} (ho : sepL [elA d x cs, holeA e d xs i cs v] h S) : owRow e d h S (xs.set i x) v := by
 obtain ⟨S1, S2, h1, h2, hd, hel, S3, _, h3, _, _, ⟨c, g, cells, hv, hle, hmax, hg, hcell, hsz, hi, hlen, hcs, T, t1, t2, t3⟩, _⟩ := ho
 refine ⟨_, c, by rw [List.length_set]; exact hv, by rw [List.length_set]; exact hle, hmax, .inr ⟨g, cells, rfl, h2 g (h3 g hg), hcell, hsz, fun k b => if k = i then S1 b else T k b, fun k b hb => ?_, fun k l b hne hk hl => ?_, fun k y hy => ?_⟩⟩
 ·by_cases hk : k = i
  ·simp only [hk, if_true] at hb
   exact ⟨h1 b hb, fun e0 => hd b hb (h3 b (e0 ▸ hg))⟩
  ·simp only [hk, if_false] at hb
   exact ⟨h2 b (h3 b (t1 k b hb).1), (t1 k b hb).2⟩
 ·by_cases hk0 : k = i <;> by_cases hl0 : l = i <;> simp only [hk0, hl0, if_true, if_false] at hk hl
  ·exact hne (hk0.trans hl0.symm)
  ·exact hd b hk (h3 b (t1 l b hl).1)
  ·exact hd b hl (h3 b (t1 k b hk).1)
  ·exact t2 k l b hne hk hl
 ·by_cases hk : k = i
  ·subst hk
   rw [List.getElem?_set_self hi] at hy
   obtain rfl := Option.some.inj hy
   have hel : d.ow h S1 x cs := hel
   exact ⟨cs, by simpa only [if_true] using hel, hcs⟩
  ·rw [List.getElem?_set_ne (fun e0 => hk e0.symm)] at hy
   obtain ⟨cs', a1, a2⟩ := t3 k y hk hy
   exact ⟨cs', by simpa only [hk, if_false] using a1, a2⟩
theorem h_turn {A B : List HA} (hh : ∀ (h : Hp) (S : Nat → Prop), sepL A h S → sepL B h S) (h : Holds C (B ++ F) st) : Holds C (A ++ F) st :=
 h_conseq fun _ _ hs => ⟨_, hs.turn (fun S => hh _ S), h⟩
theorem h_focus {xs : List α} {v : Value} {i : Nat} (hi : i < xs.length) (h : ∀ cs, Holds C (elA d xs[i] cs :: holeA e d xs i cs v :: F) st) : Holds C (rowA e d xs v :: F) st := by
 intro L w1 w a hs ht hr
 obtain ⟨henv, hl, S, hS, S1, S2, h1, h2, hd, hrow, hF⟩ := hs
 obtain ⟨cs, hcs⟩ := focus (rowA_holds.1 hrow) hi
 exact h cs L w1 w a ⟨henv, hl, S, hS, sepL_append (l1 := [elA d xs[i] cs, holeA e d xs i cs v]).2 ⟨S1, S2, h1, h2, hd, hcs, hF⟩⟩ ht hr
theorem h_unfocus {xs : List α} {v : Value} {i : Nat} {x : α} {cs : List Value} (h : Holds C (rowA e d (xs.set i x) v :: F) st) : Holds C (elA d x cs :: holeA e d xs i cs v :: F) st :=
 h_turn (A := [_, _]) (B := [_]) (fun _ S ho => ⟨S, fun _ => False, fun _ hb => hb, fun _ hb => hb.elim, fun _ _ hb => hb, rowA_holds.2 (unfocus ho), trivial⟩) h
theorem hole_cell {xs : List α} {n c : Nat} {i : Nat} {cs : List Value} {a : Addr} {h : Hp} {S : Nat → Prop} (hh : (holeA e d xs i cs (.slice (some a) n c)).holds h S) : ∀ j u, cs[j]? = some u → cellH h ((a.add (i * d.sz)).add j) = some u := by
 obtain ⟨c', g, cells, hv, _, _, _, hcell, _, _, _, hcs, _⟩ := hh
 cases hv
 intro j u hu
 rw [add_add, add_at]
 simp only [cellH, hcell, Option.isSome_none, Bool.false_eq_true, if_false, Nat.zero_add]
 exact hcs j u hu
theorem h_el_row {xs : List α} {cs : List Value} (h : ∀ A c, cs = [.slice A xs.length c] → Holds C (rowA e d xs (.slice A xs.length c) :: F) st) : Holds C (elA (kRow e d) xs cs :: F) st := by
 refine h_conseq (fun L w hs => ?_)
 obtain ⟨_, _, v, hv, A, c, hv2, hrest⟩ := hs.head
 subst hv2
 exact ⟨_, by subst hv; exact hs, h A c hv⟩
theorem h_nil (e : Nat) (d : Kn α) (h : Holds C (rowA e d [] (.slice none 0 0) :: F) st) : Holds C F st :=
 h_conseq fun _ _ hs => ⟨_, hs.triv (A := rowA e d [] (.slice none 0 0)) rowA_nil, h⟩
end
end Go.Proofs.YtgleoebogikooaaGreat.Sx
namespace Go.Proofs.YtgleoebogikooaaGreat.Sx
set_option linter.unusedVariables false
set_option linter.unusedSimpArgs false
open Go.RowKit
section
variable {C : Cx} {F : List HA}
theorem append_grown0 {α : Type} {d : Kn α} {ys : List α} {A : List HA} {A0 : Option Addr} {e : Nat} {lb : List LB} {L : List Nat} {w : World} {P : Program} {t ty by_ : Nat} {a : Addr} {c : Nat} {news : List Value}
  (hs : SOK C (A ++ F) lb L w) (hT : rowTy P t = some (e, d.sz, by_)) (hl : news.length = ys.length * d.sz) (hnews : ∀ j u, news[j]? = some u → w.cell? (a.add j) = some u) (h1 : ∀ u ∈ news, u.oneCell' = true)
  (hys : ∀ S : Nat → Prop, sepL A w.heap S → els d w.heap S ys (fun k => news[k]?)) (h63 : ys.length ≤ maxLen) (hbytes : ys.length * by_ ≤ 140737488355328) :
  ∃ (B : Option Addr) (n : Nat) (w' : World), (Builtin.append_ #[t, t] ty #[.slice A0 0 0, .slice (some a) ys.length c]).run P w = .ok (.slice B ys.length n) w' ∧ (∀ b, b < w.heap.size → w'.heap[b]? = w.heap[b]?) ∧ SOK C (rowA e d ys (.slice B ys.length n) :: F) lb L w' := by
 obtain ⟨i, z, hu, hi, hz, hsz, hzs, hby, h0⟩ := rowTy_spec hT
 obtain ⟨S, hA, hS, hmut⟩ := hs.mut
 obtain ⟨v', w', hr, hg, ho⟩ := append_run (P := P) (t := t) (ty := ty) (xs := []) (S := fun _ => False) (S' := S) hu hi hz hsz hzs h0 (owRow_empty A0) (fun b hb => hb.elim) (fun b hb => (hS b hb).1) (fun b hb => hb.elim) a c news hl hnews h1 (hys S hA) (by simpa using h63) (by rw [hby]; simpa using hbytes)
 obtain ⟨B, n, hv', _⟩ := id ho
 subst hv'
 refine ⟨B, n, w', hr, fun b hb => hg.keep b hb (fun h => h), ?_⟩
 refine hmut w' [rowA e d ys _] hg.os hg.tape hg.output hg.size (fun b hb hn => hg.keep b hb (fun h => h)) ?_
 exact ⟨_, fun _ => False, fun b hb => hb.imp (fun h => h.elim (fun h => h.elim) id) id, fun _ h => h.elim, fun _ _ h => h, rowA_holds.2 ho, trivial⟩
theorem append_newK {α : Type} {f : α → Value} {hf : ∀ x, (f x).oneCell' = true} {ys : List α} {st : St} {ts tx t ty e by_ : Nat} {dst : Option Tmp} {rg' : Rg} {A : Option Addr} {c : Nat}
  (he : atB C.B C.fn.ntmps st true = some (.call { callee := .builtin .append, args := #[.tmp ts, .tmp tx], argTypes := #[t, t] }, ty, dst, rg')) (hT : rowTy C.P t = some (e, 1, by_))
  (hv : ∀ L, ∃ A0, opL L st.tm (.tmp ts) = .slice A0 0 0) (hx : lk st.tm tx = some (.one (.v (.slice A ys.length c)))) (hr : ∀ L w, SOK C F st.lb L w → rdRow (kVal f hf) w.heap ys (.slice A ys.length c))
  (h63 : ys.length ≤ maxLen) (hbytes : ys.length * by_ ≤ 140737488355328)
  (h : ∀ A c, Holds C (rowA e (kVal f hf) ys (.slice A ys.length c) :: F) ⟨rg', st.K, ptO st.tm dst (.one (.v (.slice A ys.length c))), st.lb⟩) : Holds C F st := by
 refine prim_at true he (fun L w hs => ?_)
 have hrow := hr L w hs
 obtain ⟨A0, hA0⟩ := hv L
 cases A with
 | none =>
  have h0 : ys = [] := by
   obtain ⟨A, c', hv', _, hne, _⟩ := hrow
   cases hv'
   apply List.eq_nil_of_length_eq_zero
   apply Nat.eq_zero_of_not_pos
   intro hpos
   obtain ⟨a, ha⟩ := hne hpos
   cases ha
  subst h0
  obtain ⟨i, z, hu, hi, _, _, _, _, _⟩ := rowTy_spec hT
  refine ⟨.one (.v (.slice A0 0 0)), _, st.lb, w, exec_append ?_, fun _ _ _ => rfl, hs.triv (rowA_holds.2 (owRow_empty A0)), h A0 0⟩
  rw [hA0, opL_tmp hx]
  exact append_run0 hu hi (Nat.le_refl _)
 | some a =>
  have hcells := rdRow_sc hrow
  obtain ⟨B, n, w', hr', hk, hs'⟩ := append_grown0 (A0 := A0) (ys := ys) (A := []) (ty := ty) (c := c) (d := kVal f hf) (news := ys.map f) hs hT (by show (ys.map f).length = ys.length * 1; simp) (fun j u hu => hcells j u hu)
   (fun u hu => by obtain ⟨y, _, rfl⟩ := List.mem_map.1 hu; exact hf y) (fun S _ => els_sc ys) h63 hbytes
  refine ⟨.one (.v (.slice B ys.length n)), _, st.lb, w', exec_append ?_, fun _ => hk, hs', h B n⟩
  rw [hA0, opL_tmp hx]
  exact hr'
theorem SOK.rd {α : Type} {d : Kn α} {xs : List α} {v : Value} {e : Nat} {lb : List LB} {L : List Nat} {w : World} (hs : SOK C F lb L w) (n : Nat) (h : F[n]? = some (rowA e d xs v)) : rdRow d w.heap xs v := by
 obtain ⟨_, _, hA⟩ := hs.at_ n h
 exact owRow_read (rowA_holds.1 hA)
theorem h_bring {A : HA} {st : St} (n : Nat) (h : F[n]? = some A) (hh : Holds C (A :: F.eraseIdx n) st) : Holds C F st :=
 h_conseq fun _ _ hs => ⟨_, hs.bring n h, hh⟩
theorem h_erase {st : St} (n : Nat) (A : HA) (h : F[n]? = some A) (hh : Holds C (F.eraseIdx n) st) : Holds C F st :=
 h_conseq fun _ _ hs => ⟨_, (hs.bring n h).drop, hh⟩
def fxOf (st : St) (i : Nat) : St :=
 match st.rg with
 | .dr p l (f + 1) m => ⟨.fx p l f m i, st.K, st.tm, st.lb⟩
 | _ => st
def twoB (B : Code) (st : St) (i j : Nat) : Bool :=
 match st.rg with
 | .dr p l (_ + 1) _ => match sub p B with
  | some (.region _ ops true) => match Region.ready .any ops l.toArray with
   | [a, b] => Nat.beq a i && Nat.beq b j
   | _ => false
  | _ => false
 | _ => false
theorem two_at {st : St} (i j : Nat) (he : twoB C.B st i j = true) (h1 : Holds C F (fxOf st i)) (h2 : Holds C F (fxOf st j)) : Holds C F st := by
 obtain ⟨rg, K, tm, lb⟩ := st
 intro L w1 w a hs ht hr
 cases rg with
 | no => cases he
 | sq p k => cases he
 | fx p l f m k => cases he
 | dr p l f m =>
  cases f with
  | zero => cases he
  | succ f =>
   simp only [twoB] at he
   split at he
   ·rename_i id ops hc
    split at he
    ·rename_i x y hrd
     obtain ⟨e1, e2⟩ : Nat.beq x i = true ∧ Nat.beq y j = true := by simpa only [Bool.and_eq_true] using he
     obtain rfl := Nat.eq_of_beq_eq_true e1
     obtain rfl := Nat.eq_of_beq_eq_true e2
     refine ⟨id, ops, hc, fun h0 => (by rw [hrd] at h0; cases h0), fun k hk => ?_⟩
     rw [hrd] at hk
     rcases List.mem_cons.1 hk with rfl | hk
     ·obtain ⟨id', ops', hc', hw⟩ := h1 L w1 w a hs ht hr
      rw [hc] at hc'
      cases hc'
      exact hw
     ·obtain rfl : k = y := by simpa using hk
      obtain ⟨id', ops', hc', hw⟩ := h2 L w1 w a hs ht hr
      rw [hc] at hc'
      cases hc'
      exact hw
    ·cases he
   ·cases he
end
end Go.Proofs.YtgleoebogikooaaGreat.Sx
namespace Go.Proofs.YtgleoebogikooaaGreat.Sx
set_option linter.unusedVariables false
set_option linter.unusedSimpArgs false
open Go.RowKit
section
variable {C : Cx} {F : List HA} {lb : List LB} {L : List Nat} {w : World}
theorem old_apart {w0 w : World} {S : Nat → Prop} (h : ∃ T, sepL F w.heap T ∧ ∀ b, T b → ¬ S b) (n : Nat) (hn : F[n]? = some (oldA w0)) : (∀ b, b < w0.heap.size → ¬ S b) ∧ ∀ b, b < w0.heap.size → w.heap[b]? = w0.heap[b]? := by
 obtain ⟨T, hF, hT⟩ := h
 obtain ⟨S1, S2, h1, _, _, hA, _⟩ := sepL_perm (perm_bring n F _ hn) hF
 exact ⟨fun b hb => hT b (h1 b (hA b hb).1), fun b hb => (hA b hb).2⟩
end
end Go.Proofs.YtgleoebogikooaaGreat.Sx
namespace Go.Proofs.YtgleoebogikooaaGreat.Sx
set_option linter.unusedVariables false
set_option linter.unusedSimpArgs false
open Go.RowKit
structure Hd where
 A : Option Addr
 n : Nat
 c : Nat
def Hd.v (h : Hd) : Value := .slice h.A h.n h.c
section
variable {C : Cx} {F : List HA} {st : St} {α : Type} {d : Kn α}
def RdF (d : Kn α) (h0 : Hp) (T : Nat → Prop) (ys : List α) (hd : Hd) : Prop := ∀ h' : Hp, (∀ b, T b → b < h0.size → h'[b]? = h0[b]?) → rdRow d h' ys hd.v
theorem RdF.of {e : Nat} {h0 : Hp} {T T' : Nat → Prop} {ys : List α} {v : Value} (ho : owRow e d h0 T ys v) (hT : ∀ b, T b → T' b) : ∃ hd : Hd, v = hd.v ∧ RdF d h0 T' ys hd := by
 obtain ⟨A, c, hv, _⟩ := id ho
 refine ⟨⟨A, ys.length, c⟩, hv, fun h' hh => ?_⟩
 show rdRow d h' ys (.slice A ys.length c)
 rw [← hv]
 exact owRow_read (rowA_holds.1 ((rowA e d ys v).loc (fun b hb hlt => hh b (hT b hb) hlt) (rowA_holds.2 ho)))
end
end Go.Proofs.YtgleoebogikooaaGreat.Sx
namespace Go.Proofs.YtgleoebogikooaaGreat.Sx
set_option linter.unusedVariables false
set_option linter.unusedSimpArgs false
open Go.ChangeShapes Go.WideShapes Go.Deep Go.RowKit
def Opens {α : Type} (P : Program) (t : TypeId) (d : Kn α) (ok : α → Prop) : Prop :=
 P.cellsOf t = d.sz ∧ ∀ {H : Type} {enc : TypeId × Value → H} {w : World} {base : Nat} {spare : Nat → Bool} {held : Bool} {fuel : Nat} {cs : List Value} {x : DataW H × List MemPlace},
  DataW.trod enc P w base spare held fuel t cs = some x → ∃ a, d.rd w.heap a cs ∧ ok a
def OpensF {α : Type} (P : Program) (fs : List Field) (off : Nat) (d : Kn α) (ok : α → Prop) : Prop :=
 ∀ {H : Type} {enc : TypeId × Value → H} {w : World} {base : Nat} {spare : Nat → Bool} {held : Bool} {fuel : Nat} {cs : List Value},
  cs.length = d.sz → (∀ f ∈ fs, off ≤ f.offset ∧ ∃ y, DataW.trod enc P w base spare held fuel f.type ((cs.drop (f.offset - off)).take (P.cellsOf f.type)) = some y) → ∃ a, d.rd w.heap a cs ∧ ok a
section
variable {P : Program} {t : TypeId}
theorem opens_i64 (ht : P.underlying t = some (.int .i64)) (hc : P.cellsOf t = 1) : Opens P t kI64 (fun n => (Lit.int .i64 n).wf = true) :=
 ⟨hc, fun {H enc w base spare held fuel cs x} h => by
  obtain ⟨n, rfl, _, hw⟩ := DataW.trod_int ht h
  exact ⟨n, rfl, hw⟩⟩
theorem opens_u8 (ht : P.underlying t = some (.int .u8)) (hc : P.cellsOf t = 1) : Opens P t kU8 (fun n => (Lit.int .u8 n).wf = true) :=
 ⟨hc, fun {H enc w base spare held fuel cs x} h => by
  obtain ⟨n, rfl, _, hw⟩ := DataW.trod_int ht h
  exact ⟨n, rfl, hw⟩⟩
theorem opens_slice {α : Type} {e : TypeId} {d : Kn α} {ok : α → Prop} (E : Nat) (ht : P.underlying t = some (.slice e)) (hc : P.cellsOf t = 1) (he : Opens P e d ok) : Opens P t (kRow E d) (fun l => l.length ≤ 9223372036854775807 ∧ ∀ a ∈ l, ok a) :=
 ⟨hc, fun {H enc w base spare held fuel cs x} h => by
  rcases open_slice ht h with ⟨rfl, _⟩ | ⟨a, len, cap, m, n, D, Pl, rfl, _, hl, hm, hmm, _, hx⟩
  ·exact ⟨[], ⟨_, rfl, none, 0, rfl, Nat.le_refl _, fun h => absurd h (Nat.lt_irrefl 0), fun a ha => by cases ha⟩, by simp, by simp⟩
  ·have hlm : len ≤ m := by rw [hmm]; split <;> omega
   have hel : ∀ i, i < len → ∃ a' : α, (∃ cs', w.cells? base (a.add (i * P.cellsOf e)) (P.cellsOf e) = some cs' ∧ d.rd w.heap a' cs') ∧ ok a' := by
    intro i hi
    obtain ⟨cs', h1, h2⟩ := hx i (by omega)
    obtain ⟨a', h3, h4⟩ := he.2 h2
    exact ⟨a', ⟨cs', h1, h3⟩, h4⟩
   obtain ⟨l, hlen, hl2⟩ : ∃ l : List α, l.length = len ∧ ∀ i a', l[i]? = some a' → (∃ cs', w.cells? base (a.add (i * P.cellsOf e)) (P.cellsOf e) = some cs' ∧ d.rd w.heap a' cs') ∧ ok a' := by
    clear hl hlm hx h
    clear hmm
    rename_i hxx
    clear hxx
    induction len with
    | zero => exact ⟨[], rfl, fun i a' h => by simp at h⟩
    | succ n ih =>
     obtain ⟨l, hlen, hl2⟩ := ih (fun i hi => hel i (by omega))
     obtain ⟨z, hz⟩ := hel n (by omega)
     refine ⟨l ++ [z], by simp [hlen], fun i a' h => ?_⟩
     rcases Nat.lt_or_ge i l.length with hi | hi
     ·rw [List.getElem?_append_left hi] at h
      exact hl2 i a' h
     ·rw [List.getElem?_append_right hi] at h
      have hi2 : i - l.length = 0 := by
       rcases Nat.eq_zero_or_pos (i - l.length) with h0 | h0
       ·exact h0
       ·rw [List.getElem?_eq_none (by simp; omega)] at h
        cases h
      rw [hi2] at h
      obtain rfl : z = a' := by simpa using h
      obtain rfl : i = n := by omega
      exact hz
   refine ⟨l, ⟨_, rfl, some a, cap, by rw [hlen], by omega, fun _ => ⟨a, rfl⟩, fun a2 ha2 j p hj => ?_⟩, by have := hm; unfold maxLen at this; omega, fun z hz => ?_⟩
   ·cases ha2
    obtain ⟨⟨cs', h1, h2⟩, _⟩ := hl2 j p hj
    obtain ⟨_, h4, h5⟩ := World.cells?_some h1
    refine ⟨cs', h2, fun i u hu => ?_⟩
    have hi : i < P.cellsOf e := by rw [← h4]; exact (List.getElem?_eq_some_iff.1 hu).1
    have h6 := h5 i hi
    rw [add_add] at h6
    rw [← he.1, ← cell_eq, h6]
    exact hu
   ·obtain ⟨j, hj⟩ := List.mem_iff_getElem?.1 hz
    exact (hl2 j z hj).2⟩
theorem opensF_one {α : Type} {f : Field} {off : Nat} {d : Kn α} {ok : α → Prop} (ho : f.offset = off) (h : Opens P f.type d ok) : OpensF P [f] off d ok := by
 intro H enc w base spare held fuel cs hl hf
 obtain ⟨_, y, hy⟩ := hf f (by simp)
 rw [ho, Nat.sub_self, List.drop_zero, List.take_of_length_le (by rw [hl, h.1]; exact Nat.le_refl _)] at hy
 exact h.2 hy
theorem opensF_cons {α β : Type} {f : Field} {fs : List Field} {off off2 : Nat} {a : Kn α} {b : Kn β} {oka : α → Prop} {okb : β → Prop} (ho : f.offset = off) (h2 : off2 = off + a.sz) (h : Opens P f.type a oka) (hb : ∀ g ∈ fs, off2 ≤ g.offset)
  (hr : OpensF P fs off2 b okb) : OpensF P (f :: fs) off (kPair a b) (fun x => oka x.1 ∧ okb x.2) := by
 intro H enc w base spare held fuel cs hl hf
 have hl : cs.length = a.sz + b.sz := hl
 obtain ⟨_, y, hy⟩ := hf f (by simp)
 rw [ho, Nat.sub_self, List.drop_zero, h.1] at hy
 obtain ⟨x0, k0, o0⟩ := h.2 hy
 obtain ⟨x1, k1, o1⟩ := hr (H := H) (enc := enc) (w := w) (base := base) (spare := spare) (held := held) (fuel := fuel) (cs := cs.drop a.sz) (by rw [List.length_drop]; omega) (by
  intro g hg
  obtain ⟨_, z, hz⟩ := hf g (by simp [hg])
  refine ⟨hb g hg, z, ?_⟩
  rw [List.drop_drop, show a.sz + (g.offset - off2) = g.offset - off by have := hb g hg; omega]
  exact hz)
 exact ⟨(x0, x1), ⟨_, _, (List.take_append_drop a.sz cs).symm, k0, k1⟩, o0, o1⟩
theorem opens_struct {α β : Type} {fs : Array Field} {d : Kn α} {ok : α → Prop} {g : β → α} {ok2 : β → Prop} (ht : P.underlying t = some (.struct fs)) (hc : P.cellsOf t = d.sz) (h : OpensF P fs.toList 0 d ok) (hg : ∀ y, ok y → ∃ x, g x = y ∧ ok2 x) :
  Opens P t (kVia g d) ok2 :=
 ⟨hc, fun {H enc w base spare held fuel cs x} hx => by
  obtain ⟨xs, n, _, _, hl, hlen, hf⟩ := DataW.trod_struct ht hx
  obtain ⟨a, k, o⟩ := h (H := H) (enc := enc) (w := w) (base := base) (spare := spare) (held := held) (fuel := n) (cs := cs) (hl.trans hc) (by
   intro f hfm
   obtain ⟨i, hi⟩ := List.mem_iff_getElem?.1 hfm
   have hi2 : fs[i]? = some f := by simpa using hi
   have hlt : i < xs.length := by
    rw [hlen]
    exact (Array.getElem?_eq_some_iff.1 hi2).1
   refine ⟨Nat.zero_le _, xs[i], ?_⟩
   rw [Nat.sub_zero, hf i f hi2, List.getElem?_eq_getElem hlt])
  obtain ⟨z, hz, o2⟩ := hg a o
  exact ⟨z, by show d.rd w.heap (g z) cs; rw [hz]; exact k, o2⟩⟩
theorem open_struct_arg {α : Type} {H : Type} {enc : TypeId × Value → H} {w : World} {base base2 : Nat} {spare : Nat → Bool} {held : Bool} {v : Value} {x : DataW H} {ps : List MemPlace} {fs : Array Field} {d : Kn α} {ok : α → Prop} {r : Reach}
  (ht : P.underlying t = some (.struct fs)) (h : Opens P t d ok) (hv : Value.okWide P w r base2 t v) (hd : DataW.Trod enc P w base spare held t v x ps) : ∃ cs a, v = .agg cs ∧ d.rd w.heap a cs.toList ∧ ok a := by
 obtain ⟨cs, rfl, _⟩ := okWide_struct ht hv
 obtain ⟨fuel, hf⟩ := hd
 obtain ⟨a, k, o⟩ := h.2 hf
 exact ⟨cs, a, rfl, by simpa [Value.cells] using k, o⟩
theorem open_slice_arg {α : Type} {H : Type} {enc : TypeId × Value → H} {w : World} {base base2 : Nat} {spare : Nat → Bool} {held : Bool} {v : Value} {x : DataW H} {ps : List MemPlace} {e : TypeId} {E : Nat} {d : Kn α} {ok : List α → Prop} {r : Reach}
  (ht : P.underlying t = some (.slice e)) (h : Opens P t (kRow E d) ok) (hv : Value.okWide P w r base2 t v) (hd : DataW.Trod enc P w base spare held t v x ps) : ∃ A c l, v = .slice A (List.length l) c ∧ rdRow d w.heap l (.slice A l.length c) ∧ ok l := by
 obtain ⟨A, len, cap, rfl⟩ := okWide_slice ht hv
 obtain ⟨fuel, hf⟩ := hd
 obtain ⟨l, ⟨u, hu, hr⟩, o⟩ := h.2 hf
 obtain rfl : Value.slice A len cap = u := by simpa [Value.cells] using hu
 obtain ⟨A2, c2, he, _⟩ := id hr
 cases he
 exact ⟨A, cap, l, rfl, hr, o⟩
theorem Opens.mono {α : Type} {d : Kn α} {ok ok2 : α → Prop} (h : Opens P t d ok) (hk : ∀ x, ok x → ok2 x) : Opens P t d ok2 :=
 ⟨h.1, fun {H enc w base spare held fuel cs x} hx => by
  obtain ⟨a, h1, h2⟩ := h.2 hx
  exact ⟨a, h1, hk a h2⟩⟩
end
end Go.Proofs.YtgleoebogikooaaGreat.Sx
namespace Go.Proofs.YtgleoebogikooaaGreat.Sx
set_option linter.unusedVariables false
set_option linter.unusedSimpArgs false
open Go.RowKit
theorem cellsH_ext {h h' : Hp} (hb : ∀ b, b < h.size → h'[b]? = h[b]?) {cs : List Value} {ad : Addr} (hc : ∀ j u, cs[j]? = some u → cellH h (ad.add j) = some u) : ∀ j u, cs[j]? = some u → cellH h' (ad.add j) = some u :=
 fun j u hu => cellH_ext hb (hc j u hu)
theorem add_zero_at (ad : Addr) : ad.add 0 = ad := by unfold Addr.add; simp
theorem cell_at {h : Hp} {cs : List Value} {ad : Addr} {v : Value} (k : Nat) (hc : ∀ j u, cs[j]? = some u → cellH h (ad.add j) = some u) (hv : cs[k]? = some v) : cellH h (ad.add k) = some v := hc k v hv
theorem cells_at {h : Hp} {cs : List Value} {ad : Addr} {scs : List SC} {L : List Nat} (k : Nat) (hc : ∀ j u, cs[j]? = some u → cellH h (ad.add j) = some u) (he : (cs.drop k).take scs.length = scs.map (SC.val L)) :
  ∀ j c, scs[j]? = some c → cellH h ((ad.add k).add j) = some (c.val L) := fun j c hj => by
 rw [add_add]
 refine hc (k + j) _ ?_
 have h1 : (scs.map (SC.val L))[j]? = some (c.val L) := by rw [List.getElem?_map, hj]; rfl
 rw [← he, List.getElem?_take_of_lt (List.getElem?_eq_some_iff.1 hj).1, List.getElem?_drop] at h1
 exact h1
theorem cells_at0 {h : Hp} {cs : List Value} {ad : Addr} {scs : List SC} {L : List Nat} (hc : ∀ j u, cs[j]? = some u → cellH h (ad.add j) = some u) (he : cs.take scs.length = scs.map (SC.val L)) :
  ∀ j c, scs[j]? = some c → cellH h (ad.add j) = some (c.val L) := fun j c hj => by
 have := cells_at (L := L) (scs := scs) 0 hc (by simpa using he) j c hj
 rwa [add_zero_at] at this
section
variable {C : Cx} {F : List HA} {lb : List LB} {L : List Nat} {w : World}
theorem SOK.erase (hs : SOK C F lb L w) (n : Nat) : SOK C (F.eraseIdx n) lb L w := by
 cases h : F[n]? with
 | none => rwa [List.eraseIdx_of_length_le (List.getElem?_eq_none_iff.1 h)]
 | some A => exact (hs.bring n h).drop
theorem SOK.erases : ∀ (ks : List Nat) {F : List HA}, SOK C F lb L w → SOK C (ks.foldl List.eraseIdx F) lb L w
 | [], _, hs => hs
 | k :: ks, _, hs => SOK.erases ks (hs.erase k)
end
theorem callOf_ext {P : Program} {N : Nat} {L : List Nat} {tm : List (Nat × SV)} {a : Act} (ht : TOK N L tm a) {o : Oper} {f : Nat} {as : List SV} (h : callOf tm o = some (f, as)) (w : World) :
  (execOp a.eval o).run P w = (callFunc f (as.map (SV.val L)).toArray).run P w := by
 obtain ⟨dst, op, ty, pos, after, guard⟩ := o
 unfold callOf at h
 split at h
 ·rename_i c hop
  simp only at hop
  subst hop
  obtain ⟨callee, args, argTypes⟩ := c
  simp only at h
  split at h
  ·rename_i g
   split at h
   ·rename_i as' has
    have hargs : args.map a.eval = (as'.map (SV.val L)).toArray := by
     rw [← opsL_val ht has]
     apply Array.ext'
     simp
    split at h
    ·rename_i f' first caps hg
     cases h
     have hgv : a.eval g = .func (.func f) first caps := opv_eval ht hg
     simp only [execOp, resolve, hargs, hgv, Deferred.ofValue, Sem.run_bind, Sem.run_pure, Result.andThen_ok, invoke]
     congr 2
     apply Array.ext'
     have e : (SV.val L ∘ fun x => SV.one (SC.v x)) = id := rfl
     simp [List.map_map, e]
    ·rename_i f' caps hg
     cases h
     have hgv : a.eval g = .func (.func f) #[] (caps.map (Cap.val L)).toArray := opv_eval ht hg
     simp only [execOp, resolve, hargs, hgv, Deferred.ofValue, Sem.run_bind, Sem.run_pure, Result.andThen_ok, invoke]
     congr 2
     apply Array.ext'
     have e : (SV.val L ∘ Cap.sv) = Cap.val L := funext fun c => by cases c <;> rfl
     simp [List.map_map, e]
    ·cases h
   ·cases h
  ·cases h
 ·cases h
section
variable {C : Cx} {F : List HA}
theorem ext_at {st : St} (k : Bool) {f : Nat} {as : List SV} {dst : Option Tmp} {rg' : Rg} (he : atC C.B C.fn.ntmps st k = some (f, as, dst, rg'))
  (h : ∀ L w, SOK C F st.lb L w → ∃ (v : SV) (F' : List HA) (lb' : List LB) (w' : World), (callFunc f (as.map (SV.val L)).toArray).run C.P w = .ok (.value (v.val L)) w' ∧ (k = true → ∀ b, b < w.heap.size → w'.heap[b]? = w.heap[b]?) ∧
   SOK C F' lb' L w' ∧ Holds C F' ⟨rg', st.K, ptO st.tm dst v, lb'⟩) : Holds C F st := by
 unfold atC at he
 split at he
 ·rename_i ops i o rg hp
  split at he
  ·rename_i f' as' hc
   cases he
   obtain ⟨hi, hw, hd⟩ := posB_spec hp
   refine posB_go hp (fun L w a hs ht => ?_)
   obtain ⟨v, F', lb', w', hrun, hkeep, hs', hh⟩ := h L w hs
   exact wpOp_value hi (want_run ht hw) ((callOf_ext ht hc w).trans hrun) ⟨⟨F', lb', _, L, List.prefix_refl _, hh, hs', ptO_run ht hd v⟩, hkeep⟩
  ·cases he
 ·cases he
theorem ext_pure {st : St} (k : Bool) {f : Nat} {as : List SV} {dst : Option Tmp} {rg' : Rg} (he : atC C.B C.fn.ntmps st k = some (f, as, dst, rg')) (v : SV)
  (h : ∀ L w, SOK C F st.lb L w → (callFunc f (as.map (SV.val L)).toArray).run C.P w = .ok (.value (v.val L)) w) (hh : Holds C F ⟨rg', st.K, ptO st.tm dst v, st.lb⟩) : Holds C F st :=
 ext_at k he fun L w hs => ⟨v, F, st.lb, w, h L w hs, fun _ _ _ => rfl, hs, hh⟩
end
section
variable {C : Cx} {F : List HA}
end
def isNaN (x : Nat) : Bool := decide (9218868437227405312 < x % 9223372036854775808)
def canonF (x : Nat) : Nat := bif isNaN x then 9221120237041090560 else x
theorem canon0 (b : Nat) : (((b : Int) = 0) = (canonF b = 0)) := by
 unfold canonF
 cases h : isNaN b with
 | true =>
  have := of_decide_eq_true h
  simp only [cond_true]
  apply propext
  constructor
  ·intro h; omega
  ·intro h; omega
 | false => simp only [cond_false]; apply propext; omega
theorem canonTop {b : Nat} (hb : b < 18446744073709551616) : (canonF b = 9223372036854775808) = (b % 9223372036854775808 = 0 ∧ ¬ (b : Int) = 0) := by
 unfold canonF
 cases h : isNaN b with
 | true =>
  have := of_decide_eq_true h
  simp only [cond_true]
  apply propext
  constructor
  ·intro h; omega
  ·intro h; omega
 | false => simp only [cond_false]; apply propext; omega
def kFc : Kn Nat where
 sz := 1
 rd _ x cs := ∃ b, cs = [.float .f64 b] ∧ b < 18446744073709551616 ∧ canonF b = x
 ow _ _ x cs := ∃ b, cs = [.float .f64 b] ∧ b < 18446744073709551616 ∧ canonF b = x
 len := fun ⟨_, h, _⟩ => by rw [h]; rfl
 one := fun ⟨_, h, _⟩ u hu => by rw [h] at hu; rw [List.mem_singleton.1 hu]; rfl
 ext _ h := h
 read h := h
 mono _ h := h
 loc _ h := h
theorem retB {b b' : Bool} (h : b = b') : Ending.returned (.bool b) = .returned (.bool b') := by rw [h]
theorem retI {k : IntKind} {b b' : Int} (h : b = b') : Ending.returned (.int k b) = .returned (.int k b') := by rw [h]
theorem rdRow_form {α : Type} {d : Kn α} {h : Hp} {xs : List α} {v : Value} (hr : rdRow d h xs v) : ∃ (A : Option Addr) (c : Nat), v = .slice A xs.length c := by
 obtain ⟨A, c, e, _⟩ := hr
 exact ⟨A, c, e⟩
theorem rdRow_nil {α : Type} {d : Kn α} {h : Hp} : rdRow d h [] (.slice none 0 0) := owRow_read (e := 0) (S := fun _ => False) owRow_nil
end Go.Proofs.YtgleoebogikooaaGreat.Sx
