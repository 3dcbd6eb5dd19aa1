/- Library: a checked symbolic machine over the model's code (part SxHeap). No conditions: each theorem says its own. -/
import Derived.Test.YtjbbakckckihnaaSxOp
/-! Loads, stores and new blocks of the call's own. -/
namespace Go.Proofs.Ytjbbakckckihnaa.Sx
set_option linter.unusedVariables false
set_option linter.unusedSimpArgs false
open Go.RowKit
theorem add_at (g off k : Nat) : (⟨g, off, none⟩ : Addr).add k = ⟨g, off + k, none⟩ := by
  unfold Addr.add
  split
  · rename_i h; subst h; rfl
  · rfl
theorem cell_of_block {w : World} {g : Nat} {cs : Array Value} {t : TypeId} {fr : Nat × Nat} (h : w.heap[g]? = some (.cells cs t fr)) (i : Nat) : w.cell? ⟨g, i, none⟩ = cs[i]? := by
  simp [World.cell?, h]
theorem cell_of_lb {w : World} {L : List Nat} {lb : List LB} (h : LOK L lb w.heap) {i : Nat} {b : LB} (hb : lb[i]? = some b) (off : Nat) : w.cell? ⟨L.getD i 0, off, none⟩ = (b.cells[off]?).map (SC.val L) := by
  rw [cell_of_block (h.2.2 i b hb)]
  simp
def partL (P : Program) (t : Nat) (cs : List SC) (off : Nat) : Option SV :=
  match aggSz P t with
  | some (true, n) => bif Nat.ble (off + n) cs.length then some (.agg ((cs.drop off).take n)) else none
  | some (false, _) => match cs[off]? with
    | some c => some (.one c)
    | none => none
  | none => none
def evalL (P : Program) (tm : List (Nat × SV)) (lb : List LB) (o : Oper) : Option SV :=
  match o.op with
  | .load t x => match opv tm x with
    | some (.one (.ptr h off)) => match lb[h]? with
      | some b => partL P t b.cells off
      | none => none
    | _ => none
  | _ => none
theorem evalL_load {P : Program} {tm : List (Nat × SV)} {lb : List LB} {o : Oper} {v : SV} (hv : evalL P tm lb o = some v) : ∃ t x, o.op = .load t x := by
  unfold evalL at hv
  split at hv
  · exact ⟨_, _, by assumption⟩
  · cases hv
theorem partL_run {P : Program} {t : Nat} {cs : List SC} {off : Nat} {v : SV} (h : partL P t cs off = some v) {L : List Nat} {w : World} {g : Nat} (hc : ∀ i, w.cell? ⟨g, i, none⟩ = (cs[i]?).map (SC.val L)) :
    (loadVar t ⟨g, off, none⟩).run P w = .ok (v.val L) w := by
  unfold partL at h
  cases hg : aggSz P t with
  | none => simp [hg] at h
  | some gn =>
    obtain ⟨ag, n⟩ := gn
    obtain ⟨h1, h2⟩ := aggSz_run hg w
    cases ag with
    | true =>
      simp only [hg] at h
      cases hb : Nat.ble (off + n) cs.length with
      | false => rw [hb] at h; cases h
      | true =>
        rw [hb] at h
        obtain rfl := (Option.some.inj h).symm
        have hle : off + n ≤ cs.length := Nat.le_of_ble_eq_true hb
        have hl : (((cs.drop off).take n).map (SC.val L)).length = n := by simp; omega
        have hcells := run_loadCells_list (P := P) w ⟨g, off, none⟩ (((cs.drop off).take n).map (SC.val L)) (fun j u hu => by
          rw [add_at, hc]
          simp only [List.getElem?_map, List.getElem?_take, List.getElem?_drop] at hu
          split at hu
          · exact hu
          · cases hu)
        rw [hl] at hcells
        simp only [loadVar, Sem.run_bind, h1, Result.andThen_ok, if_true, h2, hcells, Sem.run_pure, SV.val]
    | false =>
      simp only [hg] at h
      cases hk : cs[off]? with
      | none => simp [hk] at h
      | some c =>
        simp only [hk, Option.some.injEq] at h
        subst h
        have := hc off
        rw [hk] at this
        simp only [loadVar, Sem.run_bind, h1, Result.andThen_ok, Bool.false_eq_true, if_false, load, Sem.run, this, Option.map_some, SV.val]
theorem evalL_run {P : Program} {N : Nat} {L : List Nat} {tm : List (Nat × SV)} {a : Act} (h : TOK N L tm a) {lb : List LB} {o : Oper} {v : SV} (hv : evalL P tm lb o = some v) {w : World} (hl : LOK L lb w.heap) :
    (execOp a.eval o).run P w = .ok (.value (v.val L)) w := by
  obtain ⟨dst, op, ty, pos, after, guard⟩ := o
  cases op <;> simp only [evalL] at hv <;> try (cases hv; done)
  rename_i t x
  split at hv
  · rename_i k off hc
    split at hv
    · rename_i b hb
      simp only [execOp, Instr.loadAt, Sem.run_bind, opv_eval h hc, SV.val, SC.val, Instr.sureAddr, Sem.run_pure, Result.andThen_ok, partL_run hv (cell_of_lb hl hb)]
    · cases hv
  · cases hv
/-! ### New blocks -/
def SV.cells : SV → List SC
  | .one (.v x) => x.cells.toList.map .v
  | .one c => [c]
  | .agg cs => cs
theorem SV.cells_val (v : SV) (L : List Nat) : (v.val L).cells = (v.cells.map (SC.val L)).toArray := by
  cases v with
  | agg cs => rfl
  | one c =>
    cases c <;> try rfl
    rename_i x
    simp only [SV.val, SC.val, SV.cells, List.map_map]
    have : (SC.val L ∘ SC.v) = id := rfl
    rw [this]
    simp
def fillS (place : Nat → Option (Nat × Nat)) : List SC → List (Nat × SV) → Option (List SC)
  | cells, [] => some cells
  | cells, (i, v) :: rest =>
    match place i with
    | none => none
    | some (off, size) =>
      bif Nat.beq v.cells.length size && Nat.ble (off + v.cells.length) cells.length then
        fillS place (v.cells.zipIdx.foldl (fun cs (c, j) => cs.set (off + j) c) cells) rest
      else none
theorem foldl_set_val (L : List Nat) (off : Nat) : ∀ (l : List (SC × Nat)) (cs : List SC),
    (l.map fun (c, j) => (c.val L, j)).foldl (fun cs (c, j) => cs.setIfInBounds (off + j) c) (cs.map (SC.val L)).toArray =
      ((l.foldl (fun cs (c, j) => cs.set (off + j) c) cs).map (SC.val L)).toArray
  | [], cs => rfl
  | (c, j) :: l, cs => by
    simp only [List.map_cons, List.foldl_cons]
    have : (cs.map (SC.val L)).toArray.setIfInBounds (off + j) (c.val L) = ((cs.set (off + j) c).map (SC.val L)).toArray := by
      simp [List.map_set]
    rw [this]
    exact foldl_set_val L off l _
theorem fillS_val {place : Nat → Option (Nat × Nat)} (L : List Nat) : ∀ {parts : List (Nat × SV)} {cells out : List SC}, fillS place cells parts = some out →
    Instr.fill place (cells.map (SC.val L)).toArray (parts.map fun (i, v) => (i, v.val L)) = some (out.map (SC.val L)).toArray
  | [], cells, out, h => by simp [fillS] at h; subst h; rfl
  | (i, v) :: rest, cells, out, h => by
    simp only [fillS] at h
    simp only [List.map_cons, Instr.fill]
    cases hp : place i with
    | none => simp [hp] at h
    | some os =>
      obtain ⟨off, size⟩ := os
      simp only [hp] at h ⊢
      cases hb : (Nat.beq v.cells.length size && Nat.ble (off + v.cells.length) cells.length) with
      | false => rw [hb] at h; cases h
      | true =>
        rw [hb] at h
        obtain ⟨h1, h2⟩ : Nat.beq v.cells.length size = true ∧ Nat.ble (off + v.cells.length) cells.length = true := by simpa only [Bool.and_eq_true] using hb
        have h1 := Nat.eq_of_beq_eq_true h1
        have h2 := Nat.le_of_ble_eq_true h2
        rw [SV.cells_val]
        have hs : ((v.cells.map (SC.val L)).toArray).size = v.cells.length := by simp
        have e1 : (((v.cells.map (SC.val L)).toArray).size ≠ size || off + ((v.cells.map (SC.val L)).toArray).size > ((cells.map (SC.val L)).toArray).size) = false := by
          simp [h1]
          omega
        simp only [e1, Bool.false_eq_true, if_false]
        have hz : (v.cells.map (SC.val L)).toArray.zipIdx = ((v.cells.zipIdx.map fun (c, j) => (c.val L, j))).toArray := by
          simp [List.zipIdx_map]
          try rfl
        rw [hz]
        have hf := foldl_set_val L off v.cells.zipIdx cells
        simp only [List.size_toArray, List.length_map] at hf ⊢
        have := fillS_val L (parts := rest) h
        rw [← this]
        congr 1
        rw [← hf]
        exact List.foldl_toArray' _ _ _ (by simp)
def opsS (tm : List (Nat × SV)) : List (Nat × Operand) → Option (List (Nat × SV))
  | [] => some []
  | (i, x) :: r => match opv tm x, opsS tm r with
    | some v, some l => some ((i, v) :: l)
    | _, _ => none
theorem opsS_val {N : Nat} {L : List Nat} {tm : List (Nat × SV)} {a : Act} (h : TOK N L tm a) : ∀ {xs : List (Nat × Operand)} {l : List (Nat × SV)}, opsS tm xs = some l →
    (xs.map fun (i, x) => (i, a.eval x)) = l.map fun (i, v) => (i, v.val L)
  | [], l, hl => by simp [opsS] at hl; subst hl; rfl
  | (i, x) :: r, l, hl => by
    simp only [opsS] at hl
    cases ho : opv tm x with
    | none => simp [ho] at hl
    | some v =>
      cases hr : opsS tm r with
      | none => simp [ho, hr] at hl
      | some m =>
        simp only [ho, hr, Option.some.injEq] at hl
        subst hl
        rw [List.map_cons, List.map_cons, opsS_val h hr]
        simp only [opv_eval h ho]
end Go.Proofs.Ytjbbakckckihnaa.Sx
