/- Walks of functions of the program: what each call returns and what it leaves in memory. Conditions: those that each theorem names. -/
import Derived.Test.YtgleoebogikooaaC3
import Derived.Test.YtgleoebogikooaaSxC
namespace Go.Proofs.Ytgleoebogikooaa.Dk
set_option linter.unusedVariables false
set_option linter.unusedSimpArgs false
open Go.Proofs.Ytgleoebogikooaa.Sx Go.Proofs Go.RowKit
set_option maxRecDepth 100000
set_option maxHeartbeats 1000000
def okLo (lo : Option En) (e : En) : Bool := match lo with
  | none => true
  | some x => !decide (cmpEn e x < 0)
def okHi (hi : Option En) (e : En) : Bool := match hi with
  | none => true
  | some x => decide (cmpEn e x < 0)
abbrev CS := List Int × Int
/-- the kids from number i on, each with what is known -/
def kidsF (c : CS → Int → Option En → Option En → Option CS) (n : Nd) (lo hi : Option En) : List Int → Nat → CS → Option CS
  | [], _, s => some s
  | k :: r, i, s => match c s k (if 0 < i then n.entries[i - 1]? else lo) (if i < n.entries.length then n.entries[i]? else hi) with
    | none => none
    | some s' => kidsF c n lo hi r (i + 1) s'
/-- a walk below a node: what was seen, and how deep the leaves are -/
def chk (T : List Nd) : Nat → CS → Int → Int → Option En → Option En → Option CS
  | 0, _, _, _, _, _ => none
  | f + 1, s, at_, dp, lo, hi =>
    match T[at_.toNat]? with
    | none => none
    | some n =>
      if (0 ≤ at_ ∧ at_ ∉ s.1) ∧ nodeOk n = true ∧ n.entries.all (fun e => okLo lo e && okHi hi e) = true then
        if n.leaf = true then (if (if s.2 = 0 then dp else s.2) = dp then some (s.1 ++ [at_], if s.2 = 0 then dp else s.2) else none)
        else kidsF (fun s k lo hi => chk T f s k (dp + 1) lo hi) n lo hi n.kids 0 (s.1 ++ [at_], s.2)
      else none
def goodS (T : List Nd) (s : List Int) : Prop := s.Nodup ∧ ∀ x ∈ s, 0 ≤ x ∧ x < (T.length : Int)
theorem goodS_add {T : List Nd} {s : List Int} {k : Int} (h : goodS T s) (h0 : 0 ≤ k) (h1 : k < (T.length : Int)) (hn : k ∉ s) : goodS T (s ++ [k]) := by
  refine ⟨List.nodup_append.2 ⟨h.1, by simp, fun a ha b hb => by rw [List.mem_singleton.1 hb]; exact fun e => hn (e ▸ ha)⟩, fun x hx => ?_⟩
  rcases List.mem_append.1 hx with hx | hx
  · exact h.2 x hx
  · rw [List.mem_singleton.1 hx]; exact ⟨h0, h1⟩
theorem goodS_len {T : List Nd} {s : List Int} (h : goodS T s) : s.length ≤ T.length := by
  have hs : (s.map Int.toNat) ⊆ List.range T.length := fun x hx => by
    obtain ⟨y, hy, rfl⟩ := List.mem_map.1 hx
    have := h.2 y hy
    exact List.mem_range.2 (by omega)
  have hn : (s.map Int.toNat).Nodup := by
    rw [List.Nodup, List.pairwise_map]
    refine List.Pairwise.imp_of_mem (fun {a b} ha hb hab => ?_) h.1
    have := h.2 a ha; have := h.2 b hb
    omega
  have := List.Nodup.length_le_of_subset hn hs
  simpa using this
theorem kidsF_inv {T : List Nd} {c : CS → Int → Option En → Option En → Option CS} {n : Nd} {lo hi : Option En} (hc : ∀ s k lo hi s', c s k lo hi = some s' → goodS T s.1 → goodS T s'.1 ∧ s.1.length ≤ s'.1.length) :
    ∀ (l : List Int) (i : Nat) (s s' : CS), kidsF c n lo hi l i s = some s' → goodS T s.1 → goodS T s'.1 ∧ s.1.length ≤ s'.1.length
  | [], i, s, s', h, hg => by cases h; exact ⟨hg, Nat.le_refl _⟩
  | k :: r, i, s, s', h, hg => by
    simp only [kidsF] at h
    split at h
    · cases h
    · rename_i s1 h1
      obtain ⟨g1, l1⟩ := hc _ _ _ _ _ h1 hg
      obtain ⟨g2, l2⟩ := kidsF_inv hc r (i + 1) s1 s' h g1
      exact ⟨g2, by omega⟩
theorem chk_inv {T : List Nd} : ∀ (f : Nat) (s : CS) (at_ dp : Int) (lo hi : Option En) (s' : CS), chk T f s at_ dp lo hi = some s' → goodS T s.1 → goodS T s'.1 ∧ s.1.length ≤ s'.1.length
  | 0, _, _, _, _, _, _, h, _ => by cases h
  | f + 1, s, at_, dp, lo, hi, s', h, hg => by
    simp only [chk] at h
    split at h
    · cases h
    · rename_i n hn
      have hlt := (List.getElem?_eq_some_iff.1 hn).1
      split at h
      · rename_i hc
        have hg1 := goodS_add hg hc.1.1 (by omega) hc.1.2
        split at h
        · by_cases hq : (if s.2 = 0 then dp else s.2) = dp
          · rw [if_pos hq] at h
            obtain rfl := Option.some.inj h
            exact ⟨hg1, by simp⟩
          · rw [if_neg hq] at h
            cases h
        · obtain ⟨g2, l2⟩ := kidsF_inv (fun s k lo hi s' h hg => chk_inv f s k (dp + 1) lo hi s' h hg) _ _ _ _ h hg1
          simp only [List.length_append, List.length_singleton] at l2
          exact ⟨g2, by omega⟩
      · cases h
end Go.Proofs.Ytgleoebogikooaa.Dk
