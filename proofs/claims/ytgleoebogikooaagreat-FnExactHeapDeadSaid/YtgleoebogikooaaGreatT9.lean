/- Walks of functions of the program: what each call returns and what it leaves in memory. Conditions: those that each theorem names. -/
import Derived.Test.YtgleoebogikooaaGreatT8
namespace Go.Proofs.YtgleoebogikooaaGreat.Dk
set_option linter.unusedVariables false
set_option linter.unusedSimpArgs false
open Go.Proofs.YtgleoebogikooaaGreat.Sx Go.Proofs Go.RowKit
set_option maxRecDepth 100000
set_option maxHeartbeats 1000000
theorem byHe_of {h : He} (hz : zHe h ≤ 1048576) (hby : ∀ p ∈ h.pages, ∀ s ∈ p.slots, byOk s) : byHe h := fun p hp => by
 have hzh : zHe h = h.pages.length + (h.pages.map zPg).sum := rfl
 have h1 := z_le zPg h.pages hp
 have h2 : zPg p = p.slots.length + (p.slots.map (fun l => l.length)).sum := rfl
 refine ⟨by omega, fun s hs => ⟨hby p hp s hs, ?_⟩⟩
 have h3 := z_le (fun l : List Int => l.length) p.slots hs
 omega
theorem tupR_small {b : List Int} {x : Tu} (h : tupR b = some x) : x.key.t.length ≤ 40 ∧ x.value.t.length ≤ 40 := by
 unfold tupR at h
 split at h
 ·split at h
  ·split at h
   ·rename_i hc
    obtain rfl := Option.some.inj h
    obtain ⟨_, _, _, _, h5, h6⟩ := tupOk_parts hc.1
    exact ⟨(itemOk_kind (keyOk_ok h5)).2.2, (itemOk_kind (valOk_ok h6)).2.2⟩
   ·cases h
  ·cases h
 ·cases h
theorem rowsP_mem (i : Nat) : ∀ (l : List (List Int)) (k : Nat) (r : Rw), r ∈ rowsP i l k → ∃ s ∈ l, tupR s = some r.tuple
 | [], _, r, h => by cases h
 | s :: l, k, r, h => by
  simp only [rowsP, List.mem_append] at h
  rcases h with h | h
  ·unfold oneR at h
   split at h
   ·rename_i x hx
    rw [List.mem_singleton.1 h]
    exact ⟨s, List.mem_cons_self, hx⟩
   ·cases h
  ·obtain ⟨s', h1, h2⟩ := rowsP_mem i l (k + 1) r h
   exact ⟨s', List.mem_cons_of_mem _ h1, h2⟩
theorem rowsH_mem : ∀ (l : List Pg) (k : Nat) (r : Rw), r ∈ rowsH l k → ∃ p ∈ l, ∃ s ∈ p.slots, tupR s = some r.tuple
 | [], _, r, h => by cases h
 | p :: l, k, r, h => by
  simp only [rowsH, List.mem_append] at h
  rcases h with h | h
  ·obtain ⟨s, h1, h2⟩ := rowsP_mem k p.slots 0 r h
   exact ⟨p, List.mem_cons_self, s, h1, h2⟩
  ·obtain ⟨p', h1, h2⟩ := rowsH_mem l (k + 1) r h
   exact ⟨p', List.mem_cons_of_mem _ h1, h2⟩
theorem rowsH_le {n : Nat} : ∀ (l : List Pg) (k : Nat), (∀ p ∈ l, p.slots.length ≤ n) → (rowsH l k).length ≤ n * l.length
 | [], _, _ => Nat.zero_le _
 | p :: l, k, h => by
  have h1 := rowsH_le l (k + 1) (fun q hq => h q (List.mem_cons_of_mem _ hq))
  have h2 := rowsP_len k p.slots 0
  have h3 := h p List.mem_cons_self
  simp only [rowsH, List.length_append, List.length_cons, Nat.mul_add, Nat.mul_one]
  omega
theorem pgU_slots {p : Pg} (h : 0 ≤ pgU p) : p.slots.length ≤ 16 := by
 unfold pgU at h
 split at h
 ·rename_i hc; exact hc.2.1
 ·omega
theorem heapOk_bnd {h : He} (ho : heapOk h = true) : h.pages.length ≤ 16 ∧ ∀ p ∈ h.pages, p.slots.length ≤ 16 := by
 unfold heapOk at ho
 simp only [Bool.and_eq_true, List.all_eq_true, decide_eq_true_eq] at ho
 refine ⟨ho.1, fun p hp => pgU_slots ?_⟩
 have h1 := ho.2 p hp
 unfold pgGood at h1
 simp only [Bool.and_eq_true, decide_eq_true_eq] at h1
 exact h1.1
theorem rowsR_len (h : He) : (rowsR h).length ≤ 256 := by
 unfold rowsR
 split
 ·rename_i ho
  obtain ⟨h1, h2⟩ := heapOk_bnd ho
  have h3 := rowsH_le h.pages 0 h2
  omega
 ·exact Nat.zero_le _
theorem rowsR_sl (h : He) : ∀ r ∈ rowsR h, r.tuple.key.t.length ≤ 40 ∧ r.tuple.value.t.length ≤ 40 := fun r hr => by
 unfold rowsR at hr
 split at hr
 ·obtain ⟨p, _, s, _, hs⟩ := rowsH_mem _ _ _ hr
  exact tupR_small hs
 ·cases hr
theorem zRow_rows : ∀ (xs : List Rw), (∀ r ∈ xs, r.tuple.key.t.length ≤ 40 ∧ r.tuple.value.t.length ≤ 40) → (xs.map zRw).sum ≤ 80 * xs.length
 | [], _ => Nat.zero_le _
 | x :: r, h => by
  have h1 := zRow_rows r (fun q hq => h q (List.mem_cons_of_mem _ hq))
  obtain ⟨h2, h3⟩ := h x List.mem_cons_self
  have h4 : zRw x = x.tuple.key.t.length + x.tuple.value.t.length := rfl
  simp only [List.map_cons, List.sum_cons, List.length_cons, Nat.mul_add, Nat.mul_one]
  omega
theorem heap_sl {h : He} (hz : zHe h ≤ 1048576) : ∀ p ∈ h.pages, p.slots.length ≤ 1048576 ∧ lenSum p.slots ≤ 1048576 ∧ ∀ y ∈ p.slots, y.length ≤ 1048576 := fun p hp => by
 have h0 : zHe h = h.pages.length + (h.pages.map zPg).sum := rfl
 have h1 := z_le zPg h.pages hp
 have h2 : zPg p = p.slots.length + (p.slots.map (fun l => l.length)).sum := rfl
 have h3 := lenSum_eq p.slots
 refine ⟨by omega, by omega, fun y hy => ?_⟩
 have h4 := z_le (fun l : List Int => l.length) p.slots hy
 omega
theorem sHRowsX_ok (h : He) (csh : List Value) (w : World) (xs : List Rw) (hh : kHe.rd w.heap h csh) (hz : zHe h ≤ 1048576) (hb : byHe h) (hxs : rowsR h = xs) :
  Calls Tryz.prog 7 #[.agg csh.toArray] w fun e w' => ∃ (B : Option Addr) (d : Nat), e = .returned (.slice B xs.length d) ∧ Fresh w w' [rowA 64 kRw xs (.slice B xs.length d)] := by
 subst hxs
 exact sRows_ok h csh w hh hz hb
end Go.Proofs.YtgleoebogikooaaGreat.Dk
