/- Library: a checked symbolic machine over the model's code (part SxMut). No conditions: each theorem says its own. -/
import Derived.Test.YtjbbakckckihnaaSxMove4
/-! Functions that write into what they are handed. -/
namespace Go.Proofs.Ytjbbakckckihnaa.Sx
set_option linter.unusedVariables false
set_option linter.unusedSimpArgs false
open Go.RowKit
/-- What a call that may write the blocks of S leaves. -/
structure Mut (w w' : World) (S : Nat → Prop) (As : List HA) : Prop where
  os : w'.os = w.os
  tape : w'.tape = w.tape
  output : w'.output = w.output
  size : w.heap.size ≤ w'.heap.size
  keep : ∀ b, b < w.heap.size → ¬ S b → w'.heap[b]? = w.heap[b]?
  own : sepL As w'.heap (fun b => S b ∨ (w.heap.size ≤ b ∧ b < w'.heap.size))
/-- All but the blocks of S is as it was. -/
def oldX (w0 : World) (S : Nat → Prop) : HA where
  holds h T := ∀ b, b < w0.heap.size → ¬ S b → T b ∧ h[b]? = w0.heap[b]?
  mono hs h b hb hn := ⟨hs b (h b hb hn).1, (h b hb hn).2⟩
  loc hs h b hb hn := ⟨(h b hb hn).1, by
    have h1 := (h b hb hn).2
    rw [hs b (h b hb hn).1 ((Array.getElem?_eq_some_iff.1 (h1.trans (Array.getElem?_eq_getElem hb))).1)]
    exact h1⟩
section
variable {C : Cx} {F : List HA} {lb : List LB} {L : List Nat} {w : World}
theorem SOK.outm {As : List HA} {S : Nat → Prop} (hs : SOK C (As ++ [oldX C.w0 S]) lb L w) : Mut C.w0 w S As := by
  obtain ⟨⟨h1, _⟩, _, T, hT, hF⟩ := hs
  obtain ⟨S1, S2, h3, h4, hd, hA, S3, S4, h5, _, _, hold, _⟩ := sepL_append.1 hF
  refine ⟨h1.os, h1.tape, h1.output, h1.size, fun b hb hn => (hold b hb hn).2, sepL_mono (fun b hb => ?_) hA⟩
  rcases Nat.lt_or_ge b C.w0.heap.size with hlt | hge
  · by_cases hSb : S b
    · exact .inl hSb
    · exact absurd (h5 b (hold b hlt hSb).1) (hd b hb)
  · exact .inr ⟨hge, (hT b (h3 b hb)).1⟩
theorem start_mut {A : List HA} {S : Nat → Prop} {w : World} (hA : sepL A w.heap S) (hS : ∀ b, S b → b < w.heap.size) : ∃ T : Nat → Prop, (∀ b, T b → b < w.heap.size ∧ b ∉ ([] : List Nat)) ∧ sepL (A ++ [oldX w S]) w.heap T :=
  ⟨fun b => b < w.heap.size, fun b hb => ⟨hb, by simp⟩, sepL_append.2 ⟨S, fun b => b < w.heap.size ∧ ¬ S b, hS, fun b hb => hb.1, fun b hb hn => hn.2 hb, hA, fun b => b < w.heap.size ∧ ¬ S b, fun _ => False, fun _ h => h, fun _ h => h.elim, fun _ _ h => h, fun b hb hn => ⟨⟨hb, hn⟩, rfl⟩, trivial⟩⟩
theorem SOK.oldx {w0 : World} {S : Nat → Prop} (hs : SOK C F lb L w) (n : Nat) (h : F[n]? = some (oldX w0 S)) : ∀ b, b < w0.heap.size → ¬ S b → w.heap[b]? = w0.heap[b]? := by
  obtain ⟨_, _, hA⟩ := hs.at_ n h
  exact fun b hb hn => (hA b hb hn).2
/-- A call that writes what stands at the head. -/
theorem call_mut {A : List HA} {st : St} {f : Nat} {as : List SV} {dst : Option Tmp} {rg' : Rg} (he : atC C.B C.fn.ntmps st false = some (f, as, dst, rg')) (hg : goesB C.P f = true)
    (h : ∀ (L : List Nat) (w : World) (S : Nat → Prop), SOK C (A ++ F) st.lb L w → sepL A w.heap S → (∀ b, S b → b < w.heap.size) → Calls C.P f (as.map (SV.val L)).toArray w fun e w' => ∃ (v : SV) (B : List HA), e = .returned (v.val L) ∧ Mut w w' S B ∧
      Holds C (B ++ F) ⟨rg', st.K, ptO st.tm dst v, st.lb⟩) : Holds C (A ++ F) st :=
  call_at false he hg fun L w hs => by
    obtain ⟨S, hA, hS, hmut⟩ := hs.mut
    refine (h L w S hs hA (fun b hb => (hS b hb).1)).mono ?_
    rintro e w' ⟨v, B, he, hm, hh⟩
    exact ⟨v, B ++ F, st.lb, he, fun hk => by (cases hk), hmut w' B hm.os hm.tape hm.output hm.size hm.keep hm.own, hh⟩
end
end Go.Proofs.Ytjbbakckckihnaa.Sx
