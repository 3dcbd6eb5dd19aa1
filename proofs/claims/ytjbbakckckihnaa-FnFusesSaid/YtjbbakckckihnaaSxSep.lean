/- Library: a checked symbolic machine over the model's code (part SxSep). No conditions: each theorem says its own. -/
import Derived.Test.YtjbbakckckihnaaSxAt
/-! What is owned, handled. -/
namespace Go.Proofs.Ytjbbakckckihnaa.Sx
set_option linter.unusedVariables false
set_option linter.unusedSimpArgs false
open Go.RowKit
section
variable {C : Cx} {F : List HA} {lb : List LB} {L : List Nat} {w w' : World}
theorem sepL_perm {l l' : List HA} (hp : l.Perm l') : ∀ {h : Hp} {S : Nat → Prop}, sepL l h S → sepL l' h S := by
  induction hp with
  | nil => exact fun h => h
  | cons A _ ih => exact fun ⟨S1, S2, h1, h2, hd, hA, hl⟩ => ⟨S1, S2, h1, h2, hd, hA, ih hl⟩
  | swap A B l =>
    rintro h S ⟨S1, S2, h1, h2, hd, hB, S3, S4, h3, h4, hd2, hA, hl⟩
    exact ⟨S3, fun b => S1 b ∨ S4 b, fun b hb => h2 b (h3 b hb), fun b hb => hb.elim (h1 b) (fun hb => h2 b (h4 b hb)), fun b hb hc => hc.elim (fun hc => hd b hc (h3 b hb)) (hd2 b hb), hA,
      S1, S4, fun b hb => .inl hb, fun b hb => .inr hb, fun b hb hc => hd b hb (h4 b hc), hB, hl⟩
  | trans _ _ ih1 ih2 => exact fun h => ih2 (ih1 h)
theorem sepL_append {l1 l2 : List HA} {h : Hp} {S : Nat → Prop} : sepL (l1 ++ l2) h S ↔ ∃ S1 S2 : Nat → Prop, (∀ b, S1 b → S b) ∧ (∀ b, S2 b → S b) ∧ (∀ b, S1 b → ¬ S2 b) ∧ sepL l1 h S1 ∧ sepL l2 h S2 := by
  induction l1 generalizing S with
  | nil => exact ⟨fun hl => ⟨fun _ => False, S, fun _ hb => hb.elim, fun _ hb => hb, fun _ hb => hb.elim, trivial, hl⟩, fun ⟨S1, S2, _, h2, _, _, hl⟩ => sepL_mono h2 hl⟩
  | cons A l1 ih =>
    constructor
    · rintro ⟨S1, S2, h1, h2, hd, hA, hl⟩
      obtain ⟨S3, S4, h3, h4, hd2, hl1, hl2⟩ := ih.1 hl
      exact ⟨fun b => S1 b ∨ S3 b, S4, fun b hb => hb.elim (h1 b) (fun hb => h2 b (h3 b hb)), fun b hb => h2 b (h4 b hb), fun b hb hc => hb.elim (fun hb => hd b hb (h4 b hc)) (fun hb => hd2 b hb hc),
        ⟨S1, S3, fun b hb => .inl hb, fun b hb => .inr hb, fun b hb hc => hd b hb (h3 b hc), hA, hl1⟩, hl2⟩
    · rintro ⟨S1, S2, h1, h2, hd, ⟨S3, S4, h3, h4, hd2, hA, hl1⟩, hl2⟩
      refine ⟨S3, fun b => S4 b ∨ S2 b, fun b hb => h1 b (h3 b hb), fun b hb => hb.elim (fun hb => h1 b (h4 b hb)) (h2 b), fun b hb hc => hc.elim (hd2 b hb) (fun hc => hd b (h3 b hb) hc), hA, ih.2 ?_⟩
      exact ⟨S4, S2, fun b hb => .inl hb, fun b hb => .inr hb, fun b hb hc => hd b (h4 b hb) hc, hl1, hl2⟩
theorem SOK.perm {F' : List HA} (hs : SOK C F lb L w) (hp : F.Perm F') : SOK C F' lb L w := by
  obtain ⟨h1, h2, S, hS, hF⟩ := hs
  exact ⟨h1, h2, S, hS, sepL_perm hp hF⟩
theorem perm_bring : ∀ (n : Nat) (l : List HA) (A : HA), l[n]? = some A → l.Perm (A :: l.eraseIdx n)
  | _, [], _, h => by simp at h
  | 0, B :: l, A, h => by simp at h; subst h; exact List.Perm.refl _
  | n + 1, B :: l, A, h => by
    have := perm_bring n l A (by simpa using h)
    exact (List.Perm.cons B this).trans (List.Perm.swap A B _)
theorem SOK.bring {A : HA} (hs : SOK C F lb L w) (n : Nat) (h : F[n]? = some A) : SOK C (A :: F.eraseIdx n) lb L w := hs.perm (perm_bring n F A h)
theorem SOK.head {A : HA} (hs : SOK C (A :: F) lb L w) : ∃ S : Nat → Prop, (∀ b, S b → b < w.heap.size ∧ b ∉ L) ∧ A.holds w.heap S := by
  obtain ⟨_, _, S, hS, S1, S2, h1, _, _, hA, _⟩ := hs
  exact ⟨S1, fun b hb => hS b (h1 b hb), hA⟩
theorem SOK.at_ {A : HA} (hs : SOK C F lb L w) (n : Nat) (h : F[n]? = some A) : ∃ S : Nat → Prop, (∀ b, S b → b < w.heap.size ∧ b ∉ L) ∧ A.holds w.heap S := (hs.bring n h).head
theorem SOK.drop {A : HA} (hs : SOK C (A :: F) lb L w) : SOK C F lb L w := by
  obtain ⟨h1, h2, S, hS, S1, S2, _, h4, _, _, hF⟩ := hs
  exact ⟨h1, h2, S2, fun b hb => hS b (h4 b hb), hF⟩
theorem SOK.turn {A : List HA} {B : List HA} (hs : SOK C (A ++ F) lb L w) (h : ∀ S : Nat → Prop, sepL A w.heap S → sepL B w.heap S) : SOK C (B ++ F) lb L w := by
  obtain ⟨h1, h2, S, hS, hF⟩ := hs
  obtain ⟨S1, S2, h3, h4, hd, hA, hF⟩ := sepL_append.1 hF
  exact ⟨h1, h2, S, hS, sepL_append.2 ⟨S1, S2, h3, h4, hd, h S1 hA, hF⟩⟩
theorem LOK.ext (h : LOK L lb w.heap) (hb : ∀ b, b < w.heap.size → w'.heap[b]? = w.heap[b]?) : LOK L lb w'.heap :=
  ⟨h.1, h.2.1, fun i b hi => by
    have := h.2.2 i b hi
    rw [hb _ (Array.getElem?_eq_some_iff.1 this).1]
    exact this⟩
theorem SOK.below (hs : SOK C F lb L w) (hb : Below w.heap.size w w') : SOK C F lb L w' := by
  obtain ⟨⟨h1, hp⟩, h2, S, hS, hF⟩ := hs
  exact ⟨⟨⟨hb.os.trans h1.os, hb.tape.trans h1.tape, hb.output.trans h1.output, Nat.le_trans h1.size hb.size⟩, hp⟩, h2.ext hb.block, S, fun b hb' => ⟨Nat.lt_of_lt_of_le (hS b hb').1 hb.size, (hS b hb').2⟩, sepL_loc (fun b _ hlt => hb.block b hlt) hF⟩
/-- What a call made: all that was there stays, and what it tells lies in new blocks. -/
def Fresh (w w' : World) (As : List HA) : Prop := Below w.heap.size w w' ∧ ∃ S : Nat → Prop, (∀ b, S b → w.heap.size ≤ b ∧ b < w'.heap.size) ∧ sepL As w'.heap S
theorem LOK.notin (h : LOK L lb w.heap) {b : Nat} (hb : w.heap.size ≤ b) : b ∉ L := fun hm => by
  have := h.lt hm
  omega
theorem SOK.fresh {As : List HA} (hs : SOK C F lb L w) (hf : Fresh w w' As) : SOK C (As ++ F) lb L w' := by
  obtain ⟨hb, S', hS', hAs⟩ := hf
  have hn := fun b => hs.2.1.notin (b := b)
  have h1 := hs.below hb
  obtain ⟨_, _, S0, hS0, hF0⟩ := hs
  obtain ⟨h2, h3, _⟩ := h1
  refine ⟨h2, h3, fun b => S' b ∨ S0 b, fun b hb' => ?_, sepL_append.2 ⟨S', S0, fun b h => .inl h, fun b h => .inr h, fun b h k => ?_, hAs, sepL_loc (fun b _ hlt => hb.block b hlt) hF0⟩⟩
  · rcases hb' with hb' | hb'
    · exact ⟨(hS' b hb').2, hn b (hS' b hb').1⟩
    · exact ⟨Nat.lt_of_lt_of_le (hS0 b hb').1 hb.size, (hS0 b hb').2⟩
  · have := (hS' b h).1
    have := (hS0 b k).1
    omega
/-- What is owned at the head may be written; what comes of it is owned in its place. -/
theorem SOK.mut {A : List HA} (hs : SOK C (A ++ F) lb L w) : ∃ S : Nat → Prop, sepL A w.heap S ∧ (∀ b, S b → b < w.heap.size ∧ b ∉ L) ∧
    ∀ (w' : World) (B : List HA), w'.os = w.os → w'.tape = w.tape → w'.output = w.output → w.heap.size ≤ w'.heap.size → (∀ b, b < w.heap.size → ¬ S b → w'.heap[b]? = w.heap[b]?) →
      sepL B w'.heap (fun b => S b ∨ (w.heap.size ≤ b ∧ b < w'.heap.size)) → SOK C (B ++ F) lb L w' := by
  obtain ⟨⟨h1, hp⟩, h2, S, hS, hF⟩ := hs
  obtain ⟨S1, S2, h3, h4, hd, hA, hF⟩ := sepL_append.1 hF
  refine ⟨S1, hA, fun b hb => hS b (h3 b hb), fun w' B ho ht hu hz hk hB => ?_⟩
  refine ⟨⟨⟨ho.trans h1.os, ht.trans h1.tape, hu.trans h1.output, Nat.le_trans h1.size hz⟩, hp⟩, ⟨h2.1, h2.2.1, fun i b hi => ?_⟩, fun b => S b ∨ (w.heap.size ≤ b ∧ b < w'.heap.size), fun b hb => ?_, ?_⟩
  · have h5 := h2.2.2 i b hi
    rw [hk _ (Array.getElem?_eq_some_iff.1 h5).1 (fun hs1 => (hS _ (h3 _ hs1)).2 ?_)]
    · exact h5
    · have : i < L.length := by rw [← h2.1]; exact (List.getElem?_eq_some_iff.1 hi).1
      rw [List.getD_eq_getElem?_getD, List.getElem?_eq_getElem this]
      exact List.getElem_mem _
  · rcases hb with hb | hb
    · exact ⟨Nat.lt_of_lt_of_le (hS b hb).1 hz, (hS b hb).2⟩
    · exact ⟨hb.2, h2.notin hb.1⟩
  · refine sepL_append.2 ⟨fun b => S1 b ∨ (w.heap.size ≤ b ∧ b < w'.heap.size), S2, fun b hb => hb.imp (h3 b) id, fun b hb => .inl (h4 b hb), fun b hb hc => ?_, hB, sepL_loc (fun b hb hlt => hk b hlt (fun h5 => hd b h5 hb)) hF⟩
    rcases hb with hb | hb
    · exact hd b hb hc
    · have := (hS b (h4 b hc)).1
      omega
/-- The world as it was at a point: nothing of it has turned. -/
def oldA (w0 : World) : HA where
  holds h S := ∀ b, b < w0.heap.size → S b ∧ h[b]? = w0.heap[b]?
  mono hs h b hb := ⟨hs b (h b hb).1, (h b hb).2⟩
  loc hs h b hb := ⟨(h b hb).1, by
    have h1 := (h b hb).2
    rw [hs b (h b hb).1 ((Array.getElem?_eq_some_iff.1 (h1.trans (Array.getElem?_eq_getElem hb))).1)]
    exact h1⟩
theorem SOK.old {w0 : World} (hs : SOK C F lb L w) (n : Nat) (h : F[n]? = some (oldA w0)) : ∀ b, b < w0.heap.size → w.heap[b]? = w0.heap[b]? := by
  obtain ⟨S, _, hA⟩ := hs.at_ n h
  exact fun b hb => (hA b hb).2
/-- At the end: what is told lies in new blocks. -/
theorem SOK.out {As : List HA} (hs : SOK C (As ++ [oldA C.w0]) lb L w) : Fresh C.w0 w As := by
  obtain ⟨⟨h1, _⟩, _, S, hS, hF⟩ := hs
  obtain ⟨S1, S2, h3, h4, hd, hA, S3, S4, h5, _, _, hold, _⟩ := sepL_append.1 hF
  refine ⟨⟨h1.os, h1.tape, h1.output, h1.size, fun b hb => (hold b hb).2⟩, S1, fun b hb => ⟨?_, (hS b (h3 b hb)).1⟩, hA⟩
  rcases Nat.lt_or_ge b C.w0.heap.size with hlt | hge
  · exact absurd (h5 b (hold b hlt).1) (hd b hb)
  · exact hge
theorem SOK.out0 (hs : SOK C [oldA C.w0] lb L w) : Below C.w0.heap.size C.w0 w := (SOK.out (As := []) hs).1
/-- What lies in no memory is told at the end. -/
theorem SOK.out1 {A : HA} (hs : SOK C [oldA C.w0] lb L w) (h : A.holds w.heap (fun _ => False)) : Fresh C.w0 w [A] := by
  have hb : Fresh C.w0 w [] := SOK.out (As := []) hs
  exact ⟨hb.1, fun _ => False, fun _ h => h.elim, fun _ => False, fun _ => False, fun _ h => h, fun _ h => h, fun _ h => h.elim, h, trivial⟩
theorem start_old (w : World) : ∃ S : Nat → Prop, (∀ b, S b → b < w.heap.size ∧ b ∉ ([] : List Nat)) ∧ sepL [oldA w] w.heap S :=
  ⟨fun b => b < w.heap.size, fun b hb => ⟨hb, by simp⟩, fun b => b < w.heap.size, fun _ => False, fun _ h => h, fun _ h => h.elim, fun _ _ h => h, fun b hb => ⟨hb, rfl⟩, trivial⟩
theorem start_LOK (h : Hp) : LOK [] [] h := ⟨rfl, List.nodup_nil, fun i b hb => by simp at hb⟩
theorem call_fresh {st : St} (k : Bool) {f : Nat} {as : List SV} {dst : Option Tmp} {rg' : Rg} (he : atC C.B C.fn.ntmps st k = some (f, as, dst, rg')) (hg : goesB C.P f = true)
    (h : ∀ L w, SOK C F st.lb L w → Calls C.P f (as.map (SV.val L)).toArray w fun e w' => ∃ (v : SV) (As : List HA), e = .returned (v.val L) ∧ Fresh w w' As ∧ Holds C (As ++ F) ⟨rg', st.K, ptO st.tm dst v, st.lb⟩) : Holds C F st :=
  call_at k he hg fun L w hs => (h L w hs).mono fun _ _ ⟨v, As, h1, h2, h3⟩ => ⟨v, As ++ F, st.lb, h1, fun _ => h2.1.block, hs.fresh h2, h3⟩
/-- A function that returns what lies in no memory. -/
theorem call_pure {st : St} (k : Bool) {f : Nat} {as : List SV} {dst : Option Tmp} {rg' : Rg} (he : atC C.B C.fn.ntmps st k = some (f, as, dst, rg')) (hg : goesB C.P f = true) (v : SV)
    (h : ∀ L w, SOK C F st.lb L w → Calls C.P f (as.map (SV.val L)).toArray w fun e w' => e = .returned (v.val L) ∧ Below w.heap.size w w') (hh : Holds C F ⟨rg', st.K, ptO st.tm dst v, st.lb⟩) : Holds C F st :=
  call_at k he hg fun L w hs => (h L w hs).mono fun _ _ ⟨h1, h2⟩ => ⟨v, F, st.lb, h1, fun _ => h2.block, hs.below h2, hh⟩
end
end Go.Proofs.Ytjbbakckckihnaa.Sx
