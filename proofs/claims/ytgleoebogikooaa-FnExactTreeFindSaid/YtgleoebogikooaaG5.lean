/- Walks of functions of the program: what each call returns and what it leaves in memory. Conditions: those that each theorem names. -/
import Derived.Test.YtgleoebogikooaaG4
import Derived.Test.YtgleoebogikooaaSxC
namespace Go.Proofs.Ytgleoebogikooaa.Dk
set_option linter.unusedVariables false
set_option linter.unusedSimpArgs false
open Go.Proofs.Ytgleoebogikooaa.Sx Go.Proofs Go.RowKit
set_option maxRecDepth 100000
set_option maxHeartbeats 1000000
def collect (T : List Nd) : Nat → Int → List En
  | 0, _ => []
  | f + 1, at_ => match T[at_.toNat]? with
    | none => []
    | some n => if n.leaf = true then n.entries else n.kids.flatMap (collect T f)
theorem collect_leaf {T : List Nd} {f : Nat} {at_ : Int} (h : at_.toNat < T.length) (hl : T[at_.toNat].leaf = true) : collect T (f + 1) at_ = T[at_.toNat].entries := by
  unfold collect
  rw [List.getElem?_eq_getElem h]
  exact if_pos hl
theorem collect_in {T : List Nd} {f : Nat} {at_ : Int} (h : at_.toNat < T.length) (hl : T[at_.toNat].leaf = false) : collect T (f + 1) at_ = T[at_.toNat].kids.flatMap (collect T f) := by
  conv => lhs; unfold collect
  rw [List.getElem?_eq_getElem h]
  exact if_neg (by rw [hl]; decide)
/-- the reference's row of what was seen, against the keys -/
def SeenIs (T : List Nd) (bs : List Bool) (s : List Int) : Prop := bs.length = T.length ∧ ∀ (i : Nat) (h : i < bs.length), bs[i] = true ↔ (i : Int) ∈ s
theorem seen_set {T : List Nd} {bs : List Bool} {s : List Int} {at_ : Int} (h : SeenIs T bs s) (h0 : 0 ≤ at_) : SeenIs T (bs.set at_.toNat true) (s ++ [at_]) := by
  refine ⟨by rw [List.length_set]; exact h.1, fun i hi => ?_⟩
  rw [List.length_set] at hi
  rw [List.getElem_set, List.mem_append, List.mem_singleton]
  by_cases he : at_.toNat = i
  · rw [if_pos he]
    exact ⟨fun _ => .inr (by omega), fun _ => rfl⟩
  · rw [if_neg he, h.2 i hi]
    exact ⟨.inl, fun hh => hh.resolve_right (by omega)⟩
def AllIs (w0 : World) (al : List En) (css : List (List Value)) : Prop := css.length = al.length ∧ ∀ (i : Nat) x cs, al[i]? = some x → css[i]? = some cs → kEn.rd w0.heap x cs
theorem all_app {w0 : World} {al zs : List En} {css cs2 : List (List Value)} (h : AllIs w0 al css) (h1 : cs2.length = zs.length) (h2 : ∀ (i : Nat) x cs, zs[i]? = some x → cs2[i]? = some cs → kEn.rd w0.heap x cs) : AllIs w0 (al ++ zs) (css ++ cs2) := by
  refine ⟨by rw [List.length_append, List.length_append, h.1, h1], fun i x cs hx hc => ?_⟩
  rcases Nat.lt_or_ge i al.length with hi | hi
  · rw [List.getElem?_append_left hi] at hx
    rw [List.getElem?_append_left (by rw [h.1]; exact hi)] at hc
    exact h.2 i x cs hx hc
  · rw [List.getElem?_append_right hi] at hx
    rw [List.getElem?_append_right (by rw [h.1]; exact hi), h.1] at hc
    exact h2 _ x cs hx hc
/-- what a walk keeps: places and lengths of its rows, how deep, what was seen, all so far, and whether it went wrong -/
structure Wk where
  A : Option Addr
  m : Nat
  n : Nat
  deep : Int
  wrong : Bool
  B : Option Addr
  c : Nat
  bs : List Bool
  css : List (List Value)
def Wk.vals (k : Wk) : List Value := [.slice k.A k.m k.n, .int .i64 k.deep, .bool k.wrong, .slice k.B k.css.length k.c]
def Wk.scs (k : Wk) : List SC := [.v (.slice k.A k.m k.n), .v (.int .i64 k.deep), .bo k.wrong, .v (.slice k.B k.css.length k.c)]
def Wk.as (k : Wk) : List HA := [rowA 4 kBool k.bs (.slice k.A k.m k.n), rowA 101 (kCells 5) k.css (.slice k.B k.css.length k.c)]
def GoSaid (w0 : World) (T : List Nd) (r : Option CS) (al : List En) (k : Wk) : Prop := (k.bs.length = T.length ∧ k.m = T.length) ∧ match r with
  | some x => k.wrong = false ∧ k.deep = x.2 ∧ SeenIs T k.bs x.1 ∧ AllIs w0 al k.css ∧ k.css.length ≤ 4 * x.1.length
  | none => k.wrong = true
def entJ (lo hi : Option En) (xs : List En) (i : Nat) (h : i < xs.length) : Prop :=
  entOk xs[i] = true ∧ (0 < i → lessEn (xs[i - 1]'(by omega)) xs[i] = true) ∧ (∀ x, lo = some x → lessEn xs[i] x = false) ∧ (∀ x, hi = some x → lessEn xs[i] x = true)
theorem lessE {a b : En} (ha : entOk a = true) (hb : entOk b = true) : lessEn a b = decide (cmpEn a b < 0) := less_iff (entOk_item ha) (entOk_item hb)
theorem entsJ {lo hi : Option En} {xs : List En} (hlo : ∀ x, lo = some x → entOk x = true) (hhi : ∀ x, hi = some x → entOk x = true) : (∀ (i : Nat) (h : i < xs.length), entJ lo hi xs i h) ↔ xs.all entOk = true ∧ asc xs = true ∧ xs.all (fun e => okLo lo e && okHi hi e) = true := by
  rw [← ents_iff]
  constructor
  · intro hh i h
    obtain ⟨e1, e2, e3, e4⟩ := hh i h
    have hall : ∀ j (hj : j < xs.length), entOk xs[j] = true := fun j hj => (hh j hj).1
    simp only [entI, Bool.and_eq_true, Bool.or_eq_true, decide_eq_true_eq]
    refine ⟨⟨⟨e1, ?_⟩, ?_⟩, ?_⟩
    · rcases Nat.eq_zero_or_pos i with h0 | h0
      · exact .inl h0
      · have := e2 h0
        rw [lessE (hall _ _) e1] at this
        exact .inr (of_decide_eq_true this)
    · cases lo with
      | none => rfl
      | some x =>
        have := e3 x rfl
        rw [lessE e1 (hlo x rfl)] at this
        simp only [okLo, this, Bool.not_false]
    · cases hi with
      | none => rfl
      | some x =>
        have := e4 x rfl
        rw [lessE e1 (hhi x rfl)] at this
        simp only [okHi, this]
  · intro hh i h
    have hall : ∀ j (hj : j < xs.length), entOk xs[j] = true := fun j hj => by
      have := hh j hj
      simp only [entI, Bool.and_eq_true] at this
      exact this.1.1.1
    have h1 := hh i h
    simp only [entI, Bool.and_eq_true, Bool.or_eq_true, decide_eq_true_eq] at h1
    obtain ⟨⟨⟨e1, e2⟩, e3⟩, e4⟩ := h1
    refine ⟨e1, fun h0 => ?_, fun x hx => ?_, fun x hx => ?_⟩
    · rw [lessE (hall _ _) e1]
      exact decide_eq_true (e2.resolve_left (by omega))
    · subst hx
      rw [lessE e1 (hlo x rfl)]
      simpa only [okLo, Bool.not_eq_true'] using e3
    · subst hx
      rw [lessE e1 (hhi x rfl)]
      simpa only [okHi] using e4
theorem nodeOk_parts {n : Nd} (h : nodeOk n = true) : n.entries.all entOk = true ∧ n.entries.length ≤ 4 ∧ asc n.entries = true ∧ (n.leaf = true → n.kids.length = 0) ∧ (n.leaf = false → 0 < n.entries.length ∧ n.kids.length = n.entries.length + 1) := by
  unfold nodeOk at h
  simp only [Bool.and_eq_true, decide_eq_true_eq] at h
  obtain ⟨⟨⟨h1, h2⟩, h3⟩, h4⟩ := h
  refine ⟨h1, h2, h3, fun hl => ?_, fun hl => ?_⟩
  · rw [hl] at h4; simpa using h4
  · rw [hl] at h4; simpa using h4
theorem nodeOk_mk {n : Nd} (h1 : n.entries.all entOk = true) (h2 : n.entries.length ≤ 4) (h3 : asc n.entries = true) (h4 : n.leaf = true → n.kids.length = 0) (h5 : n.leaf = false → 0 < n.entries.length ∧ n.kids.length = n.entries.length + 1) : nodeOk n = true := by
  unfold nodeOk
  rw [h1, h3, decide_eq_true h2]
  cases hl : n.leaf with
  | true => simpa using h4 hl
  | false => simpa using h5 hl
theorem chk_deep {T : List Nd} {f : Nat} {s : CS} {at_ dp : Int} {lo hi : Option En} (h0 : at_.toNat < T.length) (hl : T[at_.toNat].leaf = true) (h1 : (if s.2 = 0 then dp else s.2) ≠ dp) : chk T (f + 1) s at_ dp lo hi = none := by
  by_cases h : ((0 ≤ at_ ∧ at_ ∉ s.1) ∧ nodeOk T[at_.toNat] = true ∧ T[at_.toNat].entries.all (fun e => okLo lo e && okHi hi e) = true)
  · rw [chk_yes h0 h, if_pos hl, if_neg h1]
  · exact chk_no h0 h
theorem chk_good {T : List Nd} {f : Nat} {s : CS} {at_ dp d : Int} {lo hi : Option En} (h0 : at_.toNat < T.length) (h : (0 ≤ at_ ∧ at_ ∉ s.1) ∧ nodeOk T[at_.toNat] = true ∧ T[at_.toNat].entries.all (fun e => okLo lo e && okHi hi e) = true) (hl : T[at_.toNat].leaf = true)
    (hd : (if s.2 = 0 then dp else s.2) = d) (h1 : d = dp) : chk T (f + 1) s at_ dp lo hi = some (s.1 ++ [at_], d) := by
  rw [chk_yes h0 h, if_pos hl, hd, if_pos h1]
theorem chk_in {T : List Nd} {f : Nat} {s : CS} {at_ dp : Int} {lo hi : Option En} (h0 : at_.toNat < T.length) (h : (0 ≤ at_ ∧ at_ ∉ s.1) ∧ nodeOk T[at_.toNat] = true ∧ T[at_.toNat].entries.all (fun e => okLo lo e && okHi hi e) = true) (hl : T[at_.toNat].leaf = false) :
    chk T (f + 1) s at_ dp lo hi = kidsF (fun s k lo hi => chk T f s k (dp + 1) lo hi) T[at_.toNat] lo hi T[at_.toNat].kids 0 (s.1 ++ [at_], s.2) := by
  rw [chk_yes h0 h, if_neg (by rw [hl]; decide)]
theorem oldx_apart {F : List HA} {w0 w : World} {S S' : Nat → Prop} (h : ∃ T, sepL F w.heap T ∧ ∀ b, T b → ¬ S b) (n : Nat) (hn : F[n]? = some (oldX w0 S')) : ∀ b, b < w0.heap.size → ¬ S' b → ¬ S b ∧ w.heap[b]? = w0.heap[b]? := by
  obtain ⟨T, hF, hT⟩ := h
  obtain ⟨S1, S2, h1, _, _, hA, _⟩ := sepL_perm (perm_bring n F _ hn) hF
  exact fun b hb hn => ⟨hT b (h1 b (hA b hb hn).1), (hA b hb hn).2⟩
theorem sok_above {C : Cx} {F : List HA} {lb : List LB} {L : List Nat} {w w0 : World} (hs : SOK C F lb L w) (n : Nat) (hn : F[n]? = some (oldA w0)) : ∀ x ∈ L, w0.heap.size ≤ x := by
  obtain ⟨_, _, S, hS, hF⟩ := hs
  obtain ⟨S1, S2, h1, _, _, hA, _⟩ := sepL_perm (perm_bring n F _ hn) hF
  exact fun x hx => Nat.le_of_not_lt fun hlt => (hS x (h1 x (hA x hlt).1)).2 hx
/-- the bound that is handed on: nothing, or a row of one entry that the caller built -/
def LowOk (w0 w : World) (S : Nat → Prop) (v : Value) : Option En → Prop
  | none => v = .slice none 0 0
  | some x => entOk x = true ∧ x.key.t.length ≤ 1048576 ∧ ∃ bl cs, v = .slice (some ⟨bl, 0, none⟩) 1 1 ∧ w.heap[bl]? = some (.cells (List.toArray cs) 101 (0, 0)) ∧ kEn.rd w0.heap x cs ∧ ¬ S bl ∧ w0.heap.size ≤ bl ∧ bl < w.heap.size
theorem low_keep {w0 w w1 : World} {S S1 : Nat → Prop} {v : Value} {lo : Option En} (h : LowOk w0 w S v lo) (hk : ∀ b, b < w.heap.size → ¬ (S b ∨ b < w0.heap.size) → ¬ S1 b ∧ w1.heap[b]? = w.heap[b]?) : LowOk w0 w1 S1 v lo := by
  cases lo with
  | none => exact h
  | some x =>
    obtain ⟨h1, h2, bl, cs, h3, h4, h5, h6, h7, h8⟩ := h
    obtain ⟨k1, k2⟩ := hk bl h8 (fun h => h.elim h6 (by omega))
    have h9 := k2.trans h4
    exact ⟨h1, h2, bl, cs, h3, h9, h5, k1, h7, (Array.getElem?_eq_some_iff.1 h9).1⟩
theorem low_lit {C : Cx} {F : List HA} {lb : List LB} {L : List Nat} {w w0 : World} {S : Nat → Prop} {x : En} {j : Nat} {cells : List SC} {vals : List Value} (hs : SOK C F lb L w) (n : Nat) (hn : F[n]? = some (oldA w0)) (hb : lb[j]? = some ⟨cells, 101⟩) (hc : cellsV cells = some vals) (hx : kEn.rd w0.heap x vals) (h1 : entOk x = true) (h2 : x.key.t.length ≤ 1048576) (hS : ¬ S (L.getD j 0)) :
    LowOk w0 w S (.slice (some ⟨L.getD j 0, 0, none⟩) 1 1) (some x) := by
  have h3 := hs.2.1.2.2 j _ hb
  have hj : j < L.length := by rw [← hs.2.1.1]; exact (List.getElem?_eq_some_iff.1 hb).1
  have hm : L.getD j 0 ∈ L := by
    rw [List.getD_eq_getElem?_getD, List.getElem?_eq_getElem hj]
    exact List.getElem_mem _
  rw [cellsV_val hc] at h3
  exact ⟨h1, h2, _, _, rfl, h3, hx, hS, sok_above hs n hn _ hm, hs.inL _ hm⟩
theorem blk_cells {h : Hp} {bl ty : Nat} {cs : List Value} (hb : h[bl]? = some (.cells cs.toArray ty (0, 0))) : ∀ j u, cs[j]? = some u → cellH h (((⟨bl, 0, none⟩ : Addr).add (0 * 5)).add j) = some u := by
  intro j u hu
  rw [add_at, add_at]
  simp only [cellH, hb, Option.isSome_none, Bool.false_eq_true, if_false]
  simpa using hu
/-- how far the walk over the kids has come -/
def LoopI (w0 : World) (T : List Nd) (f : Nat) (dp : Int) (lo hi : Option En) (n : Nd) (s0 : CS) (al0 : List En) (i : Nat) (r : Option CS) (al : List En) (k : Wk) : Prop :=
  GoSaid w0 T r al k ∧ i ≤ n.kids.length ∧ match r with
  | some c => goodS T c.1 ∧ s0.1.length ≤ c.1.length ∧ kidsF (fun s k lo hi => chk T f s k (dp + 1) lo hi) n lo hi n.kids 0 s0 = kidsF (fun s k lo hi => chk T f s k (dp + 1) lo hi) n lo hi (n.kids.drop i) i c ∧ al0 ++ n.kids.flatMap (collect T f) = al ++ (n.kids.drop i).flatMap (collect T f)
  | none => kidsF (fun s k lo hi => chk T f s k (dp + 1) lo hi) n lo hi n.kids 0 s0 = none
end Go.Proofs.Ytgleoebogikooaa.Dk
