/- Library: a checked symbolic machine over the model's code (part SxMove4). No conditions: each theorem says its own. -/
import Derived.Test.YtjbbakckckihnaaSxMove3
/-! Moves: parts of slices, copies. -/
namespace Go.Proofs.Ytjbbakckckihnaa.Sx
set_option linter.unusedVariables false
set_option linter.unusedSimpArgs false
open Go.RowKit
section
variable {C : Cx} {F : List HA}
def bndOk (tm : List (Nat × SV)) (o : Option Operand) (l dflt : Nat) : Prop :=
  match o with
  | none => l = dflt
  | some x => ∃ k, opv tm x = some (.one (.v (.int k (l : Int))))
theorem run_bound {P : Program} {k : IntKind} {l y : Nat} {code : BoundsCode} (h : l ≤ y) (w : World) : (Instr.sliceBound (.int k (l : Int)) y code).run P w = .ok l w := by
  have hc : (0 : Int) ≤ (l : Int) ∧ (l : Int) ≤ (y : Int) := by omega
  simp only [Instr.sliceBound, asIntOf, Sem.run_bind, Sem.run_pure, Result.andThen_ok, hc, and_self, if_true, Int.toNat_natCast]
theorem slice_at {st : St} (ip : Nat) {l h m n c tx t ty sz : Nat} {lo hi mx : Option Operand} {dst : Option Tmp} {rg' : Rg} {A : Option Addr}
    (he : atP C.B C.fn.ntmps st ip false = some (.slice t (.tmp tx) lo hi mx, ty, dst, rg')) (hT : elSz C.P t = some sz) (hx : lk st.tm tx = some (.one (.v (.slice A n c))))
    (hlo : bndOk st.tm lo l 0) (hhi : bndOk st.tm hi h n) (hmx : bndOk st.tm mx m c) (hm : mx.isSome = true → hi.isSome = true) (h1 : l ≤ h) (h2 : h ≤ m) (h3 : m ≤ c)
    (hh : Holds C F ⟨rg', st.K, ptO st.tm dst (.one (.v (.slice (if m = l then A else A.map (·.add (l * sz))) (h - l) (m - l)))), st.lb⟩) : Holds C F st := by
  refine pure_at ip false he (fun L w hs => ?_)
  refine ⟨_, F, fun w' _ => ?_, hs, hh⟩
  unfold elSz at hT
  split at hT
  · rename_i e hu
    split at hT
    · rename_i i hinf
      cases hT
      have hsz : (sizeOf e).run C.P w' = .ok i.size w' := run_size hinf w'
      have hb : (Instr.sliceBounds true n c (lo.map (opL L st.tm)) (hi.map (opL L st.tm)) (mx.map (opL L st.tm))).run C.P w' = .ok (l, h, m) w' := by
        cases mx with
        | none =>
          have hmx : m = c := hmx
          subst hmx
          cases hi with
          | none =>
            have hhi : h = n := hhi
            subst hhi
            cases lo with
            | none =>
              have hlo : l = 0 := hlo
              subst hlo
              simp [Instr.sliceBounds]
            | some x =>
              obtain ⟨k, hk⟩ := hlo
              simp [Instr.sliceBounds, opL_v hk, SV.val, SC.val, run_bound h1]
          | some y =>
            obtain ⟨k2, hk2⟩ := hhi
            cases lo with
            | none =>
              have hlo : l = 0 := hlo
              subst hlo
              simp [Instr.sliceBounds, opL_v hk2, SV.val, SC.val, run_bound h2]
            | some x =>
              obtain ⟨k, hk⟩ := hlo
              simp [Instr.sliceBounds, opL_v hk, opL_v hk2, SV.val, SC.val, run_bound h1, run_bound h2]
        | some z =>
          obtain ⟨k3, hk3⟩ := hmx
          cases hi with
          | none => cases hm rfl
          | some y =>
            obtain ⟨k2, hk2⟩ := hhi
            cases lo with
            | none =>
              have hlo : l = 0 := hlo
              subst hlo
              simp [Instr.sliceBounds, opL_v hk2, opL_v hk3, SV.val, SC.val, run_bound h2, run_bound h3]
            | some x =>
              obtain ⟨k, hk⟩ := hlo
              simp [Instr.sliceBounds, opL_v hk, opL_v hk2, opL_v hk3, SV.val, SC.val, run_bound h1, run_bound h2, run_bound h3]
      simp only [opOf, execOp, Instr.sliceAt, Sem.run_bind, run_underlying hu, Result.andThen_ok, Instr.slice, opL_tmp hx, SV.val, SC.val, hb, hsz, Sem.run_pure]
    · cases hT
  · cases hT
/-- A copy by an append to nothing. -/
theorem append_new {α : Type} {f : α → Value} {hf : ∀ x, (f x).oneCell' = true} {ys : List α} {st : St} {ts tx t ty e by_ : Nat} {dst : Option Tmp} {rg' : Rg} {A0 A : Option Addr} {c : Nat}
    (he : atB C.B C.fn.ntmps st false = some (.call { callee := .builtin .append, args := #[.tmp ts, .tmp tx], argTypes := #[t, t] }, ty, dst, rg')) (hT : rowTy C.P t = some (e, 1, by_))
    (hv : lk st.tm ts = some (.one (.v (.slice A0 0 0)))) (hx : lk st.tm tx = some (.one (.v (.slice A ys.length c)))) (hr : ∀ L w, SOK C F st.lb L w → rdRow (kVal f hf) w.heap ys (.slice A ys.length c))
    (h63 : ys.length ≤ maxLen) (hbytes : ys.length * by_ ≤ 140737488355328)
    (h : ∀ A c, Holds C (rowA e (kVal f hf) ys (.slice A ys.length c) :: F) ⟨rg', st.K, ptO st.tm dst (.one (.v (.slice A ys.length c))), st.lb⟩) : Holds C F st := by
  refine h_conseq (fun L w hs => ⟨rowA e (kVal f hf) [] (.slice A0 0 0) :: F, hs.triv (rowA_holds.2 (owRow_empty A0)), ?_⟩)
  exact append_sc (xs := []) he hT hv hx (fun L w hs => hr L w hs.drop) (by simpa using h63) (by simpa using hbytes) h
/-! ### A block of the list becomes memory that is owned -/
def Cap.sub (k g : Nat) : Cap → Cap
  | .p h off => bif Nat.beq h k then .v (.pointer (some ⟨g, off, none⟩)) else .p h off
  | .v x => .v x
def SC.sub (k g : Nat) : SC → SC
  | .ptr h off => bif Nat.beq h k then .v (.pointer (some ⟨g, off, none⟩)) else .ptr h off
  | .sl h off n c => bif Nat.beq h k then .v (.slice (some ⟨g, off, none⟩) n c) else .sl h off n c
  | .fn f caps => .fn f (caps.map (Cap.sub k g))
  | c => c
def SV.sub (k g : Nat) : SV → SV
  | .one c => .one (c.sub k g)
  | .agg cs => .agg (cs.map (SC.sub k g))
def subTm (k g : Nat) : List (Nat × SV) → List (Nat × SV)
  | [] => []
  | (t, v) :: r => (t, v.sub k g) :: subTm k g r
theorem getD_last {L : List Nat} {g h : Nat} (hw : Nat.blt h (L.length + 1) = true) (hk : Nat.beq h L.length = false) : (L ++ [g]).getD h 0 = L.getD h 0 := by
  have h1 : h < L.length + 1 := by simpa [Nat.blt_eq] using hw
  have h2 : h ≠ L.length := fun e => by rw [e, Nat.beq_refl] at hk; cases hk
  exact getD_app (by simp [Nat.blt_eq]; omega)
theorem Cap.sub_val {L : List Nat} {g : Nat} {c : Cap} (hw : c.wf (L.length + 1) = true) : (c.sub L.length g).val L = c.val (L ++ [g]) := by
  cases c with
  | v x => rfl
  | p h off =>
    simp only [Cap.sub]
    cases hk : Nat.beq h L.length with
    | true => simp only [cond_true, Cap.val, Nat.eq_of_beq_eq_true hk, last_at]
    | false => simp only [cond_false, Cap.val, getD_last hw hk]
theorem SC.sub_val {L : List Nat} {g : Nat} {c : SC} (hw : c.wf (L.length + 1) = true) : (c.sub L.length g).val L = c.val (L ++ [g]) := by
  cases c with
  | v x => rfl
  | bo b => rfl
  | ptr h off =>
    simp only [SC.sub]
    cases hk : Nat.beq h L.length with
    | true => simp only [cond_true, SC.val, Nat.eq_of_beq_eq_true hk, last_at]
    | false => simp only [cond_false, SC.val, getD_last hw hk]
  | sl h off n c =>
    simp only [SC.sub]
    cases hk : Nat.beq h L.length with
    | true => simp only [cond_true, SC.val, Nat.eq_of_beq_eq_true hk, last_at]
    | false => simp only [cond_false, SC.val, getD_last hw hk]
  | fn f caps =>
    simp only [SC.sub, SC.val, List.map_map]
    congr 2
    exact List.map_congr_left fun c hc => Cap.sub_val (List.all_eq_true.1 hw c hc)
theorem SV.sub_val {L : List Nat} {g : Nat} {c : SV} (hw : c.wf (L.length + 1) = true) : (c.sub L.length g).val L = c.val (L ++ [g]) := by
  cases c with
  | one c => exact SC.sub_val hw
  | agg cs =>
    simp only [SV.sub, SV.val, List.map_map]
    congr 2
    exact List.map_congr_left fun c hc => SC.sub_val (List.all_eq_true.1 hw c hc)
theorem lk_sub {k g t : Nat} {v : SV} : ∀ {tm : List (Nat × SV)}, lk (subTm k g tm) t = some v → ∃ u, lk tm t = some u ∧ v = u.sub k g
  | [], h => by cases h
  | (s, u) :: r, h => by
    simp only [subTm, lk] at h ⊢
    cases hst : Nat.beq s t with
    | true =>
      rw [hst] at h
      obtain rfl := Option.some.inj h
      exact ⟨u, rfl, rfl⟩
    | false => rw [hst] at h; exact lk_sub h
/-- The last block of the list becomes memory that is owned: what it holds and what hangs of it make something owned. -/
theorem export_last {rg : Rg} {K : List KI} {tm : List (Nat × SV)} {lb : List LB} {k : Nat} {cells : List SC} {ty : Nat} {vals : List Value} {A : List HA} {B : Nat → List HA} (lb' : List LB) (hlb : lb = lb' ++ [⟨cells, ty⟩]) (hk : k = lb'.length) (hc : cellsV cells = some vals)
    (hw : wfAll (k + 1) tm lb' = true) (hw2 : lb'.all (fun b => b.cells.all (SC.wf k)) = true) (hn : Nat.ble C.L0.length k = true)
    (hB : ∀ (h : Hp) (S : Nat → Prop) g, sepL A h S → ¬ S g → h[g]? = some (.cells vals.toArray ty (0, 0)) → sepL (B g) h (fun b => S b ∨ b = g))
    (hh : ∀ g, Holds C (B g ++ F) ⟨rg, K, subTm k g tm, lb'⟩) : Holds C (A ++ F) ⟨rg, K, tm, lb⟩ := by
  intro L w1 w a hs ht hr
  subst hlb hk
  obtain ⟨⟨henv, hpre⟩, ⟨l1, l2, l3⟩, S, hS, hF⟩ := hs
  have hn := Nat.le_of_ble_eq_true hn
  have hlen : L.length = lb'.length + 1 := by rw [← l1]; simp
  obtain ⟨L', g, rfl⟩ : ∃ L' g, L = L' ++ [g] := by
    refine ⟨L.dropLast, L.getLast (fun e => by rw [e] at hlen; simp at hlen), ?_⟩
    exact (List.dropLast_concat_getLast _).symm
  have hlen' : L'.length = lb'.length := by simpa using hlen
  obtain ⟨h3, h4⟩ : tm.all (fun p => p.2.wf (lb'.length + 1)) = true ∧ lb'.all (fun b => b.cells.all (SC.wf (lb'.length + 1))) = true := by simpa only [wfAll, Bool.and_eq_true] using hw
  have hnd := List.nodup_append.1 l2
  have hgn : g ∉ L' := fun hm => hnd.2.2 g hm g (by simp) rfl
  have hlast := l3 lb'.length ⟨cells, ty⟩ (by simp)
  rw [show (L' ++ [g]).getD lb'.length 0 = g by rw [← hlen', last_at], cellsV_val hc] at hlast
  have hglt := (Array.getElem?_eq_some_iff.1 hlast).1
  obtain ⟨S1, S2, b1, b2, b3, hA, hF⟩ := sepL_append.1 hF
  have hSg : ∀ b, S b → b ≠ g := fun b hb e => (hS b hb).2 (by rw [e]; simp)
  refine hh g L' w1 w a ⟨⟨henv, ?_⟩, ⟨hlen'.symm, hnd.1, fun i b hb => ?_⟩, fun b => S b ∨ b = g, fun b hb => ?_, sepL_append.2 ⟨fun b => S1 b ∨ b = g, S2, fun b hb => hb.imp (b1 b) id, fun b hb => .inl (b2 b hb), fun b hb h2 => ?_, hB _ S1 g hA (fun h5 => hSg g (b1 g h5) rfl) hlast, hF⟩⟩ ⟨ht.1, ht.2.1, fun t v hv => ?_⟩ hr
  · obtain ⟨M, hM⟩ := hpre
    refine ⟨M.dropLast, ?_⟩
    have : M ≠ [] := fun e => by
      rw [e, List.append_nil] at hM
      rw [hM] at hn
      simp at hn
      omega
    have h5 : C.L0 ++ (M.dropLast ++ [M.getLast this]) = L' ++ [g] := by rw [List.dropLast_concat_getLast]; exact hM
    rw [← List.append_assoc] at h5
    exact (List.append_inj' h5 rfl).1
  · have hi : i < lb'.length := (List.getElem?_eq_some_iff.1 hb).1
    have h5 := l3 i b (by rw [List.getElem?_append_left hi]; exact hb)
    rw [getD_app (by simp [Nat.blt_eq]; omega)] at h5
    rw [h5]
    have : b.cells.map (SC.val (L' ++ [g])) = b.cells.map (SC.val L') := List.map_congr_left fun c hc => SC.val_app (by
      rw [hlen']
      exact List.all_eq_true.1 (List.all_eq_true.1 hw2 b (List.mem_of_getElem? hb)) c hc)
    rw [this]
  · rcases hb with hb | rfl
    · exact ⟨(hS b hb).1, fun hm => (hS b hb).2 (List.mem_append_left _ hm)⟩
    · exact ⟨hglt, hgn⟩
  · rcases hb with hb | rfl
    · exact b3 b hb h2
    · exact hSg _ (b2 _ h2) rfl
  · obtain ⟨u, hu, rfl⟩ := lk_sub hv
    rw [← hlen', SV.sub_val (by rw [hlen']; exact List.all_eq_true.1 h3 _ (lk_mem hu))]
    exact ht.2.2 t u hu
/-- A literal of the list becomes a row that is owned. -/
theorem export_row {α : Type} {d : Kn α} (xs : List α) {rg : Rg} {K : List KI} {tm : List (Nat × SV)} {lb : List LB} {k : Nat} {cells : List SC} {ty : Nat} {vals : List Value} {A : List HA} (lb' : List LB) (hlb : lb = lb' ++ [⟨cells, ty⟩]) (hk : k = lb'.length) (hc : cellsV cells = some vals)
    (hw : wfAll (k + 1) tm lb' = true) (hw2 : lb'.all (fun b => b.cells.all (SC.wf k)) = true) (hn : Nat.ble C.L0.length k = true) (hvl : vals.length = xs.length * d.sz) (hmax : xs.length ≤ maxLen) (hels : ∀ (h : Hp) (S : Nat → Prop), sepL A h S → els d h S xs (fun k => vals[k]?))
    (hh : ∀ g, Holds C (rowA ty d xs (.slice (some ⟨g, 0, none⟩) xs.length xs.length) :: F) ⟨rg, K, subTm k g tm, lb'⟩) : Holds C (A ++ F) ⟨rg, K, tm, lb⟩ := by
  refine export_last (B := fun g => [rowA ty d xs (.slice (some ⟨g, 0, none⟩) xs.length xs.length)]) lb' hlb hk hc hw hw2 hn (fun h S g hA hSg hg => ?_) hh
  refine ⟨_, fun _ => False, fun _ hb => hb, fun _ hb => hb.elim, fun _ _ hb => hb, rowA_holds.2 (owRow_iff.2 ⟨some ⟨g, 0, none⟩, xs.length, rfl, Nat.le_refl _, hmax, .inr ⟨g, _, rfl, .inr rfl, hg, by simpa using hvl, ?_⟩⟩), trivial⟩
  exact els_mono (fun b hb => ⟨.inl hb, fun e => hSg (e ▸ hb)⟩) (els_cells (hels h S hA) fun k _ u hu => by simpa using hu)
/-- The list's last block, a literal, becomes a row that is owned. -/
theorem export_lit {α : Type} {d : Kn α} (xs : List α) {rg : Rg} {K : List KI} {tm : List (Nat × SV)} {lb : List LB} {cells : List SC} {ty : Nat} {vals : List Value} {A : List HA} (hlb : lb.getLast? = some ⟨cells, ty⟩) (hc : cellsV cells = some vals)
    (hw : wfAll (lb.dropLast.length + 1) tm lb.dropLast = true) (hw2 : lb.dropLast.all (fun b => b.cells.all (SC.wf lb.dropLast.length)) = true) (hn : Nat.ble C.L0.length lb.dropLast.length = true) (hvl : vals.length = xs.length * d.sz) (hmax : xs.length ≤ maxLen) (hels : ∀ (h : Hp) (S : Nat → Prop), sepL A h S → els d h S xs (fun k => vals[k]?))
    (hh : ∀ g, Holds C (rowA ty d xs (.slice (some ⟨g, 0, none⟩) xs.length xs.length) :: F) ⟨rg, K, subTm lb.dropLast.length g tm, lb.dropLast⟩) : Holds C (A ++ F) ⟨rg, K, tm, lb⟩ :=
  export_row xs lb.dropLast (by
    have hne : lb ≠ [] := fun e => by rw [e] at hlb; cases hlb
    rw [List.getLast?_eq_some_getLast hne] at hlb
    have h1 := Option.some.inj hlb
    rw [← h1, List.dropLast_concat_getLast]) rfl hc hw hw2 hn hvl hmax hels hh
end
end Go.Proofs.Ytjbbakckckihnaa.Sx
