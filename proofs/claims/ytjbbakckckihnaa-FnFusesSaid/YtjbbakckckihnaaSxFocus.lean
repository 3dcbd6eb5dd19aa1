/- Library: a checked symbolic machine over the model's code (part SxFocus). No conditions: each theorem says its own. -/
import Derived.Test.YtjbbakckckihnaaSxMut
/-! One element of a row, taken out and put back. -/
namespace Go.Proofs.Ytjbbakckckihnaa.Sx
set_option linter.unusedVariables false
set_option linter.unusedSimpArgs false
open Go.RowKit
section
variable {α β : Type} {d : Kn α} {e : Nat} {C : Cx} {F : List HA} {st : St}
/-- A row but for what hangs of its element i; that element's cells stand in it. -/
def holeA (e : Nat) (d : Kn α) (xs : List α) (i : Nat) (cs : List Value) (v : Value) : HA where
  holds h S := ∃ (c g : Nat) (cells : Array Value), v = .slice (some ⟨g, 0, none⟩) xs.length c ∧ xs.length ≤ c ∧ c ≤ maxLen ∧ S g ∧ h[g]? = some (.cells cells e (0, 0)) ∧ cells.size = c * d.sz ∧ i < xs.length ∧ cs.length = d.sz ∧ (∀ j u, cs[j]? = some u → cells[i * d.sz + j]? = some u) ∧
    ∃ T : Nat → Nat → Prop, (∀ k b, T k b → S b ∧ b ≠ g) ∧ (∀ k l b, k ≠ l → T k b → ¬ T l b) ∧ ∀ k x, k ≠ i → xs[k]? = some x → ∃ cs, d.ow h (T k) x cs ∧ ∀ j u, cs[j]? = some u → cells[k * d.sz + j]? = some u
  mono := fun hs ⟨c, g, cells, h1, h2, h3, h4, h5, h6, h7, h8, h9, T, t1, t2, t3⟩ => ⟨c, g, cells, h1, h2, h3, hs g h4, h5, h6, h7, h8, h9, T, fun k b hb => ⟨hs b (t1 k b hb).1, (t1 k b hb).2⟩, t2, t3⟩
  loc := fun hs ⟨c, g, cells, h1, h2, h3, h4, h5, h6, h7, h8, h9, T, t1, t2, t3⟩ => ⟨c, g, cells, h1, h2, h3, h4, (hs g h4 (Array.getElem?_eq_some_iff.1 h5).1).trans h5, h6, h7, h8, h9, T, t1, t2, fun k x hk hx => by
    obtain ⟨cs, a1, a2⟩ := t3 k x hk hx
    exact ⟨cs, d.loc (fun b hb => hs b (t1 k b hb).1) a1, a2⟩⟩
theorem focus {h : Hp} {S : Nat → Prop} {xs : List α} {v : Value} (ho : owRow e d h S xs v) {i : Nat} (hi : i < xs.length) : ∃ cs, sepL [elA d xs[i] cs, holeA e d xs i cs v] h S := by
  obtain ⟨A, c, hv, hle, hmax, hc⟩ := ho
  rcases hc with h0 | ⟨g, cells, rfl, hg, hcell, hsz, T, t1, t2, t3⟩
  · omega
  obtain ⟨cs, a1, a2⟩ := t3 i _ (List.getElem?_eq_getElem hi)
  refine ⟨cs, T i, fun b => S b ∧ ¬ T i b, fun b hb => (t1 i b hb).1, fun b hb => hb.1, fun b hb hn => hn.2 hb, a1, fun b => S b ∧ ¬ T i b, fun _ => False, fun _ hb => hb, fun _ hb => hb.elim, fun _ _ hb => hb, ?_, trivial⟩
  refine ⟨c, g, cells, hv, hle, hmax, ⟨hg, fun hb => (t1 i g hb).2 rfl⟩, hcell, hsz, hi, d.len (d.read a1), a2, fun k b => T k b ∧ k ≠ i, fun k b hb => ⟨⟨(t1 k b hb.1).1, fun h2 => t2 k i b hb.2 hb.1 h2⟩, (t1 k b hb.1).2⟩, fun k l b hne hk hl => t2 k l b hne hk.1 hl.1, fun k x hk hx => ?_⟩
  obtain ⟨cs', b1, b2⟩ := t3 k x hx
  exact ⟨cs', d.mono (fun b hb => ⟨hb, hk⟩) b1, b2⟩
theorem unfocus {h : Hp} {S : Nat → Prop} {xs : List α} {v : Value} {i : Nat} {x : α} {cs : List Value} (ho : sepL [elA d x cs, holeA e d xs i cs v] h S) : owRow e d h S (xs.set i x) v := by
  obtain ⟨S1, S2, h1, h2, hd, hel, S3, _, h3, _, _, ⟨c, g, cells, hv, hle, hmax, hg, hcell, hsz, hi, hlen, hcs, T, t1, t2, t3⟩, _⟩ := ho
  refine ⟨_, c, by rw [List.length_set]; exact hv, by rw [List.length_set]; exact hle, hmax, .inr ⟨g, cells, rfl, h2 g (h3 g hg), hcell, hsz, fun k b => if k = i then S1 b else T k b, fun k b hb => ?_, fun k l b hne hk hl => ?_, fun k y hy => ?_⟩⟩
  · by_cases hk : k = i
    · simp only [hk, if_true] at hb
      exact ⟨h1 b hb, fun e0 => hd b hb (h3 b (e0 ▸ hg))⟩
    · simp only [hk, if_false] at hb
      exact ⟨h2 b (h3 b (t1 k b hb).1), (t1 k b hb).2⟩
  · by_cases hk0 : k = i <;> by_cases hl0 : l = i <;> simp only [hk0, hl0, if_true, if_false] at hk hl
    · exact hne (hk0.trans hl0.symm)
    · exact hd b hk (h3 b (t1 l b hl).1)
    · exact hd b hl (h3 b (t1 k b hk).1)
    · exact t2 k l b hne hk hl
  · by_cases hk : k = i
    · subst hk
      rw [List.getElem?_set_self hi] at hy
      obtain rfl := Option.some.inj hy
      have hel : d.ow h S1 x cs := hel
      exact ⟨cs, by simpa only [if_true] using hel, hcs⟩
    · rw [List.getElem?_set_ne (fun e0 => hk e0.symm)] at hy
      obtain ⟨cs', a1, a2⟩ := t3 k y hk hy
      exact ⟨cs', by simpa only [hk, if_false] using a1, a2⟩
theorem h_turn {A B : List HA} (hh : ∀ (h : Hp) (S : Nat → Prop), sepL A h S → sepL B h S) (h : Holds C (B ++ F) st) : Holds C (A ++ F) st :=
  h_conseq fun _ _ hs => ⟨_, hs.turn (fun S => hh _ S), h⟩
theorem h_focus {xs : List α} {v : Value} {i : Nat} (hi : i < xs.length) (h : ∀ cs, Holds C (elA d xs[i] cs :: holeA e d xs i cs v :: F) st) : Holds C (rowA e d xs v :: F) st := by
  intro L w1 w a hs ht hr
  obtain ⟨henv, hl, S, hS, S1, S2, h1, h2, hd, hrow, hF⟩ := hs
  obtain ⟨cs, hcs⟩ := focus (rowA_holds.1 hrow) hi
  exact h cs L w1 w a ⟨henv, hl, S, hS, sepL_append (l1 := [elA d xs[i] cs, holeA e d xs i cs v]).2 ⟨S1, S2, h1, h2, hd, hcs, hF⟩⟩ ht hr
theorem h_unfocus {xs : List α} {v : Value} {i : Nat} {x : α} {cs : List Value} (h : Holds C (rowA e d (xs.set i x) v :: F) st) : Holds C (elA d x cs :: holeA e d xs i cs v :: F) st :=
  h_turn (A := [_, _]) (B := [_]) (fun _ S ho => ⟨S, fun _ => False, fun _ hb => hb, fun _ hb => hb.elim, fun _ _ hb => hb, rowA_holds.2 (unfocus ho), trivial⟩) h
/-- The element's cells, read where they stand. -/
theorem hole_cell {xs : List α} {n c : Nat} {i : Nat} {cs : List Value} {a : Addr} {h : Hp} {S : Nat → Prop} (hh : (holeA e d xs i cs (.slice (some a) n c)).holds h S) : ∀ j u, cs[j]? = some u → cellH h ((a.add (i * d.sz)).add j) = some u := by
  obtain ⟨c', g, cells, hv, _, _, _, hcell, _, _, _, hcs, _⟩ := hh
  cases hv
  intro j u hu
  rw [add_add, add_at]
  simp only [cellH, hcell, Option.isSome_none, Bool.false_eq_true, if_false, Nat.zero_add]
  exact hcs j u hu
theorem hole_g {xs : List α} {A : Option Addr} {n c : Nat} {i : Nat} {cs : List Value} {h : Hp} {S : Nat → Prop} (hh : (holeA e d xs i cs (.slice A n c)).holds h S) : ∃ g, A = some ⟨g, 0, none⟩ := by
  obtain ⟨c', g, cells, hv, _⟩ := hh
  cases hv
  exact ⟨g, rfl⟩
theorem h_el_row {xs : List α} {cs : List Value} (h : ∀ A c, cs = [.slice A xs.length c] → Holds C (rowA e d xs (.slice A xs.length c) :: F) st) : Holds C (elA (kRow e d) xs cs :: F) st := by
  refine h_conseq (fun L w hs => ?_)
  obtain ⟨_, _, v, hv, A, c, hv2, hrest⟩ := hs.head
  subst hv2
  exact ⟨_, by subst hv; exact hs, h A c hv⟩
theorem h_el_pair {d2 : Kn β} {x : α × β} {cs : List Value} (h : ∀ c1 c2, cs = c1 ++ c2 → Holds C (elA d x.1 c1 :: elA d2 x.2 c2 :: F) st) : Holds C (elA (kPair d d2) x cs :: F) st := by
  intro L w1 w a hs ht hr
  obtain ⟨henv, hl, S, hS, S1, S2, h1, h2, hd, hrow, hF⟩ := hs
  obtain ⟨c1, c2, hc, hp⟩ := el_unpair hrow
  exact h c1 c2 hc L w1 w a ⟨henv, hl, S, hS, sepL_append (l1 := [_, _]).2 ⟨S1, S2, h1, h2, hd, hp, hF⟩⟩ ht hr
theorem h_el_val {f : α → Value} {hf : ∀ x, (f x).oneCell' = true} {x : α} {cs : List Value} (h : cs = [f x] → Holds C F st) : Holds C (elA (kVal f hf) x cs :: F) st := by
  refine h_conseq (fun L w hs => ?_)
  obtain ⟨_, _, hv⟩ := hs.head
  exact ⟨F, hs.drop, h hv⟩
theorem h_pair {d2 : Kn β} {x : α} {y : β} {c1 c2 : List Value} (h : Holds C (elA (kPair d d2) (x, y) (c1 ++ c2) :: F) st) : Holds C (elA d x c1 :: elA d2 y c2 :: F) st :=
  h_turn (A := [_, _]) (B := [_]) (fun _ _ ho => el_pair ho) h
theorem h_val {f : α → Value} (hf : ∀ x, (f x).oneCell' = true) (x : α) (h : Holds C (elA (kVal f hf) x [f x] :: F) st) : Holds C F st :=
  h_conseq fun _ _ hs => ⟨_, hs.triv (A := elA (kVal f hf) x [f x]) rfl, h⟩
/-- The nil slice is a row without elements. -/
theorem h_nil (e : Nat) (d : Kn α) (h : Holds C (rowA e d [] (.slice none 0 0) :: F) st) : Holds C F st :=
  h_conseq fun _ _ hs => ⟨_, hs.triv (A := rowA e d [] (.slice none 0 0)) rowA_nil, h⟩
end
end Go.Proofs.Ytjbbakckckihnaa.Sx
