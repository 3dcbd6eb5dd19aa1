/- Library: a checked symbolic machine over the model's code (part SxPtr). No conditions: each theorem says its own. -/
import Derived.Test.YtjbbakckckihnaaSxNew
/-! A block of the list handed to a call by its place; memory that is frozen. -/
namespace Go.Proofs.Ytjbbakckckihnaa.Sx
set_option linter.unusedVariables false
set_option linter.unusedSimpArgs false
open Go.RowKit
/-- A block that is owned. -/
def blkA (g : Nat) (vals : List Value) (ty : Nat) : HA where
  holds h S := S g ∧ h[g]? = some (.cells vals.toArray ty (0, 0))
  mono hs h := ⟨hs g h.1, h.2⟩
  loc hs h := ⟨h.1, by rw [hs g h.1 (Array.getElem?_eq_some_iff.1 h.2).1]; exact h.2⟩
/-- Blocks that stay as they were in h0. -/
def frzA (h0 : Hp) (T : Nat → Prop) : HA where
  holds h S := ∀ b, T b → S b ∧ h[b]? = h0[b]? ∧ b < h0.size
  mono hs h b hb := ⟨hs b (h b hb).1, (h b hb).2⟩
  loc hs h b hb := ⟨(h b hb).1, by
    have h1 := (h b hb).2.1
    rw [hs b (h b hb).1 ((Array.getElem?_eq_some_iff.1 (h1.trans (Array.getElem?_eq_getElem (h b hb).2.2))).1)]
    exact h1, (h b hb).2.2⟩
section
variable {C : Cx} {F : List HA} {lb : List LB} {L : List Nat} {w : World}
theorem start_ptr {A : List HA} {S : Nat → Prop} {w : World} {g ty : Nat} {vals : List Value} {cells : List SC} (hA : sepL (blkA g vals ty :: A) w.heap S) (hS : ∀ b, S b → b < w.heap.size) (hc : cellsV cells = some vals) :
    LOK [g] [⟨cells, ty⟩] w.heap ∧ ∃ T : Nat → Prop, (∀ b, T b → b < w.heap.size ∧ b ∉ [g]) ∧ sepL (A ++ [oldX w S]) w.heap T := by
  obtain ⟨S1, S2, h1, h2, hd, ⟨hg1, hg2⟩, hA⟩ := hA
  refine ⟨⟨rfl, by simp, fun i b hb => ?_⟩, fun b => b < w.heap.size ∧ b ≠ g, fun b hb => ⟨hb.1, by simpa using hb.2⟩, sepL_append.2 ⟨S2, fun b => b < w.heap.size ∧ ¬ S b, fun b hb => ⟨hS b (h2 b hb), fun e => hd b (e ▸ hg1) hb⟩, fun b hb => ⟨hb.1, fun e => hb.2 (e ▸ h1 _ hg1)⟩, fun b hb hn => hn.2 (h2 b hb), hA, fun b => b < w.heap.size ∧ ¬ S b, fun _ => False, fun _ h => h, fun _ h => h.elim, fun _ _ h => h, fun b hb hn => ⟨⟨hb, hn⟩, rfl⟩, trivial⟩⟩
  match i, hb with
  | 0, hb =>
    cases hb
    rw [cellsV_val hc]
    exact hg2
theorem SOK.outp {As : List HA} {S : Nat → Prop} {g ty : Nat} {vals : List Value} {cells : List SC} {lb' : List LB} (hs : SOK C (As ++ [oldX C.w0 S]) (⟨cells, ty⟩ :: lb') L w) (hL : C.L0 = [g]) (hc : cellsV cells = some vals) (hg : S g) : Mut C.w0 w S (blkA g vals ty :: As) := by
  obtain ⟨⟨h1, M, hM⟩, ⟨l1, l2, l3⟩, T, hT, hF⟩ := hs
  obtain ⟨S1, S2, h3, h4, hd, hA, S3, S4, h5, _, _, hold, _⟩ := sepL_append.1 hF
  rw [hL] at hM
  subst hM
  have hblk := l3 0 _ rfl
  simp only [List.cons_append, List.getD_cons_zero] at hblk
  rw [cellsV_val hc] at hblk
  refine ⟨h1.os, h1.tape, h1.output, h1.size, fun b hb hn => (hold b hb hn).2, fun b => b = g, S1, fun b hb => .inl (hb ▸ hg), fun b hb => ?_, fun b hb hb1 => (hT b (h3 b hb1)).2 (by rw [hb]; simp), ⟨rfl, hblk⟩, hA⟩
  rcases Nat.lt_or_ge b C.w0.heap.size with hlt | hge
  · by_cases hSb : S b
    · exact .inl hSb
    · exact absurd (h5 b (hold b hlt hSb).1) (hd b hb)
  · exact .inr ⟨hge, (hT b (h3 b hb)).1⟩
/-- A call that is handed the place of a block of the list, and may write it and what stands at the head. -/
theorem call_lb {A : List HA} {st : St} {f hh ty : Nat} {cells : List SC} {vals : List Value} {as : List SV} {dst : Option Tmp} {rg' : Rg} (he : atC C.B C.fn.ntmps st false = some (f, as, dst, rg')) (hg : goesB C.P f = true) (hb : st.lb[hh]? = some ⟨cells, ty⟩) (hc : cellsV cells = some vals)
    (h : ∀ (L : List Nat) (w : World) (S : Nat → Prop), SOK C (A ++ F) st.lb L w → sepL (blkA (L.getD hh 0) vals ty :: A) w.heap S → (∀ b, S b → b < w.heap.size) → (∃ T, sepL F w.heap T ∧ ∀ b, T b → ¬ S b) → (∀ i, i < L.length → i ≠ hh → ¬ S (L.getD i 0)) → Calls C.P f (as.map (SV.val L)).toArray w fun e w' => ∃ (v : SV) (cells' : List SC) (vals' : List Value) (B : List HA),
      e = .returned (v.val L) ∧ cellsV cells' = some vals' ∧ Mut w w' S (blkA (L.getD hh 0) vals' ty :: B) ∧ Holds C (B ++ F) ⟨rg', st.K, ptO st.tm dst v, st.lb.set hh ⟨cells', ty⟩⟩) : Holds C (A ++ F) st :=
  call_at false he hg fun L w hs => by
    have hs0 := hs
    obtain ⟨⟨h1, hp⟩, ⟨l1, l2, l3⟩, S0, hS0, hF⟩ := hs
    obtain ⟨SA, SF, h3, h4, hd, hA, hF⟩ := sepL_append.1 hF
    have hlt : hh < L.length := by rw [← l1]; exact (List.getElem?_eq_some_iff.1 hb).1
    have hmem : ∀ i, i < L.length → L.getD i 0 ∈ L := fun i hi => by
      rw [List.getD_eq_getElem?_getD, List.getElem?_eq_getElem hi]
      exact List.getElem_mem hi
    have hgm := hmem hh hlt
    have hblk := l3 hh _ hb
    rw [cellsV_val hc] at hblk
    have hglt := (Array.getElem?_eq_some_iff.1 hblk).1
    refine (h L w (fun b => SA b ∨ b = L.getD hh 0) hs0 ⟨fun b => b = L.getD hh 0, SA, fun b hb => .inr hb, fun b hb => .inl hb, fun b hb hb1 => (hS0 b (h3 b hb1)).2 (hb ▸ hgm), ⟨rfl, hblk⟩, hA⟩ (fun b hb => hb.elim (fun hb => (hS0 b (h3 b hb)).1) (fun hb => hb ▸ hglt)) ⟨SF, hF, fun b hb hn => hn.elim (fun h5 => hd b h5 hb) (fun h5 => (hS0 b (h4 b hb)).2 (h5 ▸ hgm))⟩ (fun i hi hne hn => hn.elim (fun h5 => (hS0 _ (h3 _ h5)).2 (hmem i hi)) (fun e => by
      rw [List.getD_eq_getElem?_getD, List.getD_eq_getElem?_getD, List.getElem?_eq_getElem hi, List.getElem?_eq_getElem hlt] at e
      exact hne ((List.getElem_inj l2).1 e)))).mono ?_
    rintro e w' ⟨v, cells', vals', B, he, hc', hm, hh'⟩
    refine ⟨v, B ++ F, _, he, fun hk => by (cases hk), ?_, hh'⟩
    obtain ⟨T1, T2, t1, t2, td, ⟨tg, tblk⟩, tB⟩ := hm.own
    have hkeep : ∀ b, b < w.heap.size → ¬ SA b → b ≠ L.getD hh 0 → w'.heap[b]? = w.heap[b]? := fun b hb h5 h6 => hm.keep b hb (fun h7 => h7.elim h5 h6)
    refine ⟨⟨⟨hm.os.trans h1.os, hm.tape.trans h1.tape, hm.output.trans h1.output, Nat.le_trans h1.size hm.size⟩, hp⟩, ⟨by rw [List.length_set]; exact l1, l2, fun i b hi => ?_⟩, fun b => T2 b ∨ SF b, fun b hb => ?_, sepL_append.2 ⟨T2, SF, fun b hb => .inl hb, fun b hb => .inr hb, fun b hb hb2 => ?_, tB, sepL_loc (fun b hb hlt => ?_) hF⟩⟩
    · rcases Nat.decEq i hh with hne | rfl
      · rw [List.getElem?_set_ne (by omega)] at hi
        have h5 := l3 i b hi
        have hil : i < L.length := by rw [← l1]; exact (List.getElem?_eq_some_iff.1 hi).1
        rw [hkeep _ (Array.getElem?_eq_some_iff.1 h5).1 (fun h6 => (hS0 _ (h3 _ h6)).2 (hmem i hil)) (fun e => ?_)]
        · exact h5
        · rw [List.getD_eq_getElem?_getD, List.getD_eq_getElem?_getD, List.getElem?_eq_getElem hil, List.getElem?_eq_getElem hlt] at e
          exact hne ((List.getElem_inj l2).1 e)
      · rw [List.getElem?_set_self (by omega)] at hi
        cases hi
        rw [cellsV_val hc']
        exact tblk
    · rcases hb with hb | hb
      · have hbg : b ≠ L.getD hh 0 := fun e => td b (e ▸ tg) hb
        rcases t2 b hb with h5 | h5
        · have h6 := hS0 b (h3 b (h5.resolve_right hbg))
          exact ⟨Nat.lt_of_lt_of_le h6.1 hm.size, h6.2⟩
        · refine ⟨h5.2, fun hL => ?_⟩
          obtain ⟨i, hi, he⟩ := List.mem_iff_getElem.1 hL
          have h6 := l3 i _ (List.getElem?_eq_getElem (by omega))
          have h7 := (Array.getElem?_eq_some_iff.1 h6).1
          rw [List.getD_eq_getElem?_getD, List.getElem?_eq_getElem hi] at h7
          simp only [Option.getD_some, he] at h7
          omega
      · have h6 := hS0 b (h4 b hb)
        exact ⟨Nat.lt_of_lt_of_le h6.1 hm.size, h6.2⟩
    · have h6 := hS0 b (h4 b hb2)
      rcases t2 b hb with h5 | h5
      · rcases h5 with h5 | h5
        · exact hd b h5 hb2
        · exact h6.2 (h5 ▸ hgm)
      · omega
    · have h6 := hS0 b (h4 b hb)
      exact hkeep b h6.1 (fun h7 => hd b h7 hb) (fun e => h6.2 (e ▸ hgm))
/-- A row is frozen: it may be read and stays. -/
theorem h_frz {α : Type} {d : Kn α} {xs : List α} {e : Nat} {v : Value} {st : St} (h : ∀ h0 T, owRow e d h0 T xs v → Holds C (frzA h0 T :: F) st) : Holds C (rowA e d xs v :: F) st := by
  intro L w1 w a hs ht hr
  obtain ⟨henv, hl, S, hS, S1, S2, h1, h2, hd, hrow, hF⟩ := hs
  exact h w.heap S1 (rowA_holds.1 hrow) L w1 w a ⟨henv, hl, S, hS, S1, S2, h1, h2, hd, fun b hb => ⟨hb, rfl, (hS b (h1 b hb)).1⟩, hF⟩ ht hr
theorem SOK.frz {h0 : Hp} {T : Nat → Prop} (hs : SOK C F lb L w) (n : Nat) (h : F[n]? = some (frzA h0 T)) : ∀ b, T b → b < h0.size → w.heap[b]? = h0[b]? := by
  obtain ⟨_, _, hA⟩ := hs.at_ n h
  exact fun b hb _ => (hA b hb).2.1
theorem SOK.frzrd {α : Type} {d : Kn α} {xs : List α} {e : Nat} {v : Value} {h0 : Hp} {T : Nat → Prop} (hs : SOK C F lb L w) (ho : owRow e d h0 T xs v) (n : Nat) (h : F[n]? = some (frzA h0 T)) : rdRow d w.heap xs v :=
  owRow_read (rowA_holds.1 ((rowA e d xs v).loc (fun b hb hlt => hs.frz n h b hb hlt) (rowA_holds.2 ho)))
/-- What stood before the call is none of what the callee may write. -/
theorem old_apart {w0 w : World} {S : Nat → Prop} (h : ∃ T, sepL F w.heap T ∧ ∀ b, T b → ¬ S b) (n : Nat) (hn : F[n]? = some (oldA w0)) : (∀ b, b < w0.heap.size → ¬ S b) ∧ ∀ b, b < w0.heap.size → w.heap[b]? = w0.heap[b]? := by
  obtain ⟨T, hF, hT⟩ := h
  obtain ⟨S1, S2, h1, _, _, hA, _⟩ := sepL_perm (perm_bring n F _ hn) hF
  exact ⟨fun b hb => hT b (h1 b (hA b hb).1), fun b hb => (hA b hb).2⟩
theorem old_reads {α : Type} {d : Kn α} {xs : List α} {v : Value} {w0 w : World} {S : Nat → Prop} (h : ∃ T, sepL F w.heap T ∧ ∀ b, T b → ¬ S b) (n : Nat) (hn : F[n]? = some (oldA w0)) (hr : rdRow d w0.heap xs v) (hsz : w0.heap.size ≤ w.heap.size) (h' : Hp) (hk : ∀ b, b < w.heap.size → ¬ S b → h'[b]? = w.heap[b]?) : rdRow d h' xs v := by
  obtain ⟨h1, h2⟩ := old_apart h n hn
  exact rdRow_ext (fun b hb => (hk b (Nat.lt_of_lt_of_le hb hsz) (h1 b hb)).trans (h2 b hb)) hr
theorem h_own_g {α : Type} {d : Kn α} {xs : List α} {e n c : Nat} {B : Option Addr} {st : St} (hn : 0 < n) (h : ∀ g, B = some ⟨g, 0, none⟩ → Holds C (rowA e d xs (.slice B n c) :: F) st) : Holds C (rowA e d xs (.slice B n c) :: F) st := by
  intro L w1 w a hs ht hr
  obtain ⟨S, _, hA⟩ := hs.head
  obtain ⟨g, hg⟩ := own_g (rowA_holds.1 hA) hn
  exact h g hg L w1 w a hs ht hr
end
end Go.Proofs.Ytjbbakckckihnaa.Sx
