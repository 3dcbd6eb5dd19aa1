/- Library: a checked symbolic machine over the model's code (part SxWr). No conditions: each theorem says its own. -/
import Derived.Test.YtjbbakckckihnaaSxHeap
/-! Operations that make a block or write into one of the call's own. -/
namespace Go.Proofs.Ytjbbakckckihnaa.Sx
set_option linter.unusedVariables false
set_option linter.unusedSimpArgs false
open Go.RowKit
inductive Wr where
  | new (b : LB) (v : SV)
  | upd (h : Nat) (b : LB)
def oneB : SC → Bool
  | .v (.agg _) => false
  | .v (.tuple _) => false
  | _ => true
def doW (P : Program) (tm : List (Nat × SV)) (lb : List LB) (o : Oper) : Option Wr :=
  match o.op with
  | .alloc e => match P.info? e with
    | some i => match i.zero with
      | some z => some (.new ⟨z.cells.toList.map .v, e⟩ (.one (.ptr lb.length 0)))
      | none => none
    | none => none
  | .box e x => match opv tm x with
    | some v => some (.new ⟨v.cells, e⟩ (.one (.ptr lb.length 0)))
    | none => none
  | .buildSlice t 0 parts => bif Nat.beq parts.size 0 then
      match P.underlying t with
      | some (.slice e) => match P.info? e with
        | some _ => some (.new ⟨[], e⟩ (.one (.sl lb.length 0 0 0)))
        | none => none
      | _ => none
    else none
  | .buildSlice t n parts => match P.underlying t with
    | some (.slice e) => match P.info? e with
      | some i => match i.zero with
        | some z => match opsS tm parts.toList with
          | some l => bif Nat.beq z.cells.size i.size && (Nat.ble (n * i.size) 16777216 && Nat.blt 0 (n * i.size)) then
              match fillS (fun k => some (k * i.size, i.size)) ((List.range (n * i.size)).map fun k => .v (z.cells.toList.getD (k % i.size) undef)) l with
              | some cs => some (.new ⟨cs, e⟩ (.one (.sl lb.length 0 n n)))
              | none => none
            else none
          | none => none
        | none => none
      | none => none
    | _ => none
  | .store t a x => match opv tm a, opv tm x, P.info? t with
    | some (.one (.ptr h off)), some v, some i => match lb[h]? with
      | some b => bif Nat.beq v.cells.length i.size && (Nat.ble (off + v.cells.length) b.cells.length && v.cells.all oneB) then
          some (.upd h ⟨b.cells.take off ++ v.cells ++ b.cells.drop (off + v.cells.length), b.ty⟩)
        else none
      | none => none
    | _, _, _ => none
  | _ => none
theorem oneB_val {c : SC} (h : oneB c = true) (L : List Nat) : (c.val L).oneCell' = true := by
  cases c with
  | v x => cases x <;> first | rfl | cases h
  | _ => rfl
def wrOk (P : Program) (a : Act) (o : Oper) (w : World) (L : List Nat) : Wr → Prop
  | .new b v => (execOp a.eval o).run P w = .ok (.value (v.val (L ++ [w.heap.size]))) (w.alloc (.cells (b.cells.map (SC.val L)).toArray b.ty))
  | .upd h b => (execOp a.eval o).run P w = .ok .skip (w.setRow (L.getD h 0) (b.cells.map (SC.val L)).toArray)
theorem run_info {P : Program} {t : Nat} {i : TypeInfo} (h : P.info? t = some i) (w : World) : (typeInfo t).run P w = .ok i w := by simp [typeInfo, h]
theorem run_zero {P : Program} {t : Nat} {i : TypeInfo} {z : Value} (h : P.info? t = some i) (hz : i.zero = some z) (w : World) : (zeroValue t).run P w = .ok z w := by simp [zeroValue, typeInfo, h, hz]
theorem run_size {P : Program} {t : Nat} {i : TypeInfo} (h : P.info? t = some i) (w : World) : (sizeOf t).run P w = .ok i.size w := by simp [sizeOf, typeInfo, h]
theorem run_newRow {P : Program} (e : Nat) (cs : Array Value) (w : World) : (newRow e cs).run P w = .ok ⟨w.heap.size, 0, none⟩ (w.alloc (.cells cs e)) := by
  simp only [newRow, newObj, Sem.run_bind, Sem.run, Result.andThen_ok, Sem.run_pure]
  rfl
theorem last_at (L : List Nat) (g : Nat) : (L ++ [g]).getD L.length 0 = g := by simp [List.getD_eq_getElem?_getD]
theorem doW_run {P : Program} {N : Nat} {L : List Nat} {tm : List (Nat × SV)} {a : Act} (h : TOK N L tm a) {lb : List LB} {o : Oper} {r : Wr} (hv : doW P tm lb o = some r) {w : World} (hl : LOK L lb w.heap) :
    wrOk P a o w L r := by
  obtain ⟨dst, op, ty, pos, after, guard⟩ := o
  have hlen : lb.length = L.length := hl.1
  cases op <;> simp only [doW] at hv <;> try (cases hv; done)
  case alloc e =>
    split at hv
    · rename_i i hi
      split at hv
      · rename_i z hz
        cases hv
        have e0 : (z.cells.toList.map SC.v).map (SC.val L) = z.cells.toList := by
          rw [List.map_map]
          exact List.map_id _
        simp only [wrOk, execOp, Instr.alloc, newVar, Sem.run_bind, run_zero hi hz, Result.andThen_ok, run_newRow, Sem.run_pure, SV.val, SC.val, hlen, last_at, e0]
      · cases hv
    · cases hv
  case box e x =>
    split at hv
    · rename_i v hx
      cases hv
      have e1 : (SV.one (.ptr lb.length 0)).val (L ++ [w.heap.size]) = .pointer (some ⟨w.heap.size, 0, none⟩) := by
        show Value.pointer (some ⟨(L ++ [w.heap.size]).getD lb.length 0, 0, none⟩) = _
        rw [hlen, last_at]
      simp only [wrOk, execOp, Instr.box, newVar, Sem.run_bind, Result.andThen_ok, run_newRow, Sem.run_pure, opv_eval h hx, SV.cells_val, e1]
    · cases hv
  case buildSlice t n parts =>
    cases n with
    | zero =>
      simp only at hv
      cases hp0 : Nat.beq parts.size 0 with
      | false => rw [hp0] at hv; cases hv
      | true =>
        rw [hp0] at hv
        simp only [cond_true] at hv
        have hp : parts = #[] := Array.eq_empty_of_size_eq_zero (Nat.eq_of_beq_eq_true hp0)
        subst hp
        split at hv
        · rename_i e hu
          split at hv
          · rename_i i hi
            cases hv
            simp only [wrOk, execOp, Instr.buildSlice, Sem.run_bind, run_underlying hu, Result.andThen_ok, run_size hi, Sem.run_pure]
            simp [Instr.fill, run_newRow, SV.val, SC.val, hlen, Array.range_zero']
          · cases hv
        · cases hv
    | succ n =>
    simp only at hv
    generalize n + 1 = n at hv ⊢
    split at hv
    · rename_i e hu
      split at hv
      · rename_i i hi
        split at hv
        · rename_i z hz
          split at hv
          · rename_i l hparts
            cases hb : (Nat.beq z.cells.size i.size && (Nat.ble (n * i.size) 16777216 && Nat.blt 0 (n * i.size))) with
            | false => rw [hb] at hv; cases hv
            | true =>
              rw [hb] at hv
              simp only [cond_true] at hv
              obtain ⟨h1, h2, h3⟩ : Nat.beq z.cells.size i.size = true ∧ Nat.ble (n * i.size) 16777216 = true ∧ Nat.blt 0 (n * i.size) = true := by simpa only [Bool.and_eq_true] using hb
              have h1 := Nat.eq_of_beq_eq_true h1
              have h2 := Nat.le_of_ble_eq_true h2
              have h3 : 0 < n * i.size := by simpa [Nat.blt_eq] using h3
              have hsz : 0 < i.size := Nat.pos_of_ne_zero fun e => by rw [e] at h3; simp at h3
              split at hv
              · rename_i cs hfill
                cases hv
                have hf := fillS_val L hfill
                have hz0 : (((List.range (n * i.size)).map fun k => SC.v (z.cells.toList.getD (k % i.size) undef)).map (SC.val L)).toArray = (Array.range (n * i.size)).map (z.cells[· % z.cells.size]!) := by
                  apply Array.ext'
                  simp only [List.map_map, Array.toList_map, Array.toList_range]
                  refine List.map_congr_left fun k _ => ?_
                  have hk : k % i.size < z.cells.size := by rw [h1]; exact Nat.mod_lt _ hsz
                  simp only [Function.comp, SC.val, h1]
                  rw [getElem!_pos z.cells _ hk]
                  simp [List.getD_eq_getElem?_getD, hk]
                rw [hz0] at hf
                have hp : (parts.map fun (i, x) => (i, a.eval x)).toList = l.map fun (i, v) => (i, v.val L) := by
                  rw [Array.toList_map]
                  exact opsS_val h hparts
                have hgt : ¬ n * i.size > 2 ^ 24 := by omega
                have hne : ¬ n * i.size = 0 := by omega
                simp only [wrOk, execOp, Instr.buildSlice, Sem.run_bind, run_underlying hu, Result.andThen_ok, run_size hi, run_zero hi hz, Sem.run_pure, hgt, hne, if_false, hp, hf, run_newRow]
                show _ = Result.ok (Next.value (.slice (some ⟨(L ++ [w.heap.size]).getD lb.length 0, 0, none⟩) n n)) _
                rw [hlen, last_at]
              · cases hv
          · cases hv
        · cases hv
      · cases hv
    · cases hv
  case store t ad x =>
    split at hv
    · rename_i k off v i hc hx hi
      split at hv
      · rename_i b hb
        cases hcond : (Nat.beq v.cells.length i.size && (Nat.ble (off + v.cells.length) b.cells.length && v.cells.all oneB)) with
        | false => rw [hcond] at hv; cases hv
        | true =>
          rw [hcond] at hv
          cases hv
          obtain ⟨h1, h2, h3⟩ : Nat.beq v.cells.length i.size = true ∧ Nat.ble (off + v.cells.length) b.cells.length = true ∧ v.cells.all oneB = true := by simpa only [Bool.and_eq_true] using hcond
          have h1 := Nat.eq_of_beq_eq_true h1
          have h2 := Nat.le_of_ble_eq_true h2
          have hst := run_storeCells_at P (L.getD k 0) off b.ty (v.cells.map (SC.val L)) 0 (b.cells.map (SC.val L)).toArray w (hl.2.2 k b hb) (by simpa using h2)
            (fun u hu => by
              obtain ⟨c, hc, rfl⟩ := List.mem_map.1 hu
              exact oneB_val (List.all_eq_true.1 h3 c hc) L)
          have e2 : a.eval ad = .pointer (some ⟨L.getD k 0, off, none⟩) := opv_eval h hc
          simp only [wrOk, execOp, Instr.storeAt, storeVar, Sem.run_bind, Sem.run_pure, Result.andThen_ok, run_size hi, e2, opv_eval h hx, Instr.sureAddr]
          have hsize : (v.val L).cells.size = i.size := by rw [SV.cells_val]; simpa using h1
          have hl' : (v.val L).cells.toList = v.cells.map (SC.val L) := by rw [SV.cells_val]
          simp only [hsize, ne_eq, not_true_eq_false, if_false, hl', hst, Result.andThen_ok, Sem.run_pure, Sem.run_bind]
          congr 2
          simp [List.map_append, List.map_take, List.map_drop]
      · cases hv
    · cases hv
def wfAll (n : Nat) (tm : List (Nat × SV)) (lb : List LB) : Bool := tm.all (fun p => p.2.wf n) && lb.all (fun b => b.cells.all (SC.wf n))
theorem lk_mem {tm : List (Nat × SV)} {t : Nat} {v : SV} (h : lk tm t = some v) : (t, v) ∈ tm := by
  induction tm with
  | nil => cases h
  | cons x r ih =>
    obtain ⟨s, u⟩ := x
    simp only [lk] at h
    cases hst : Nat.beq s t with
    | true =>
      rw [hst] at h
      obtain rfl := Option.some.inj h
      rw [Nat.eq_of_beq_eq_true hst]
      exact List.mem_cons_self
    | false => rw [hst] at h; exact List.mem_cons_of_mem _ (ih h)
theorem TOK.app {N : Nat} {L M : List Nat} {tm : List (Nat × SV)} {a : Act} (h : TOK N L tm a) (hw : tm.all (fun p => p.2.wf L.length) = true) : TOK N (L ++ M) tm a :=
  ⟨h.1, h.2.1, fun t v hv => by rw [SV.val_app (List.all_eq_true.1 hw _ (lk_mem hv))]; exact h.2.2 t v hv⟩
theorem LOK.lt {L : List Nat} {lb : List LB} {h : Hp} (hl : LOK L lb h) {g : Nat} (hg : g ∈ L) : g < h.size := by
  obtain ⟨i, hi, rfl⟩ := List.mem_iff_getElem.1 hg
  have hb : i < lb.length := by rw [hl.1]; exact hi
  have := hl.2.2 i _ (List.getElem?_eq_getElem hb)
  rw [show L.getD i 0 = L[i] by simp [List.getD_eq_getElem?_getD, hi]] at this
  exact (Array.getElem?_eq_some_iff.1 this).1
theorem LOK.new {L : List Nat} {lb : List LB} {w : World} (hl : LOK L lb w.heap) {b : LB} (hw : lb.all (fun b => b.cells.all (SC.wf L.length)) = true) (hb : b.cells.all (SC.wf L.length) = true) :
    LOK (L ++ [w.heap.size]) (lb ++ [b]) (w.alloc (.cells (b.cells.map (SC.val L)).toArray b.ty)).heap := by
  obtain ⟨h1, h2, h3⟩ := hl
  refine ⟨by simp [h1], ?_, fun i c hc => ?_⟩
  · rw [List.nodup_append]
    refine ⟨h2, by simp, fun x hx y hy => ?_⟩
    rw [List.mem_singleton.1 hy]
    exact Nat.ne_of_lt (LOK.lt ⟨h1, h2, h3⟩ hx)
  · have hcells : ∀ {b : LB}, b.cells.all (SC.wf L.length) = true → b.cells.map (SC.val (L ++ [w.heap.size])) = b.cells.map (SC.val L) := fun {b} hb =>
      List.map_congr_left fun c hc => SC.val_app (List.all_eq_true.1 hb c hc)
    rcases Nat.lt_or_ge i lb.length with hi | hi
    · rw [List.getElem?_append_left hi] at hc
      have hlt : Nat.blt i L.length = true := by simp [Nat.blt_eq]; omega
      have hold := h3 i c hc
      rw [getD_app hlt, hcells (List.all_eq_true.1 hw c (List.mem_of_getElem? hc))]
      exact (Below.heap_alloc w _ _ (Array.getElem?_eq_some_iff.1 hold).1).trans hold
    · rw [List.getElem?_append_right hi] at hc
      have hi0 : i = lb.length := by
        rcases Nat.eq_or_lt_of_le hi with e | e
        · exact e.symm
        · rw [List.getElem?_eq_none (by simp; omega)] at hc; cases hc
      subst hi0
      simp at hc
      subst hc
      rw [h1, last_at, hcells hb]
      exact heap_alloc_new w _
theorem LOK.upd {L : List Nat} {lb : List LB} {w : World} (hl : LOK L lb w.heap) {h : Nat} {b b' : LB} (hb : lb[h]? = some b) (ht : b'.ty = b.ty) :
    LOK L (lb.set h b') (w.setRow (L.getD h 0) (b'.cells.map (SC.val L)).toArray).heap := by
  obtain ⟨h1, h2, h3⟩ := hl
  have hlt : h < lb.length := (List.getElem?_eq_some_iff.1 hb).1
  refine ⟨by simp [h1], h2, fun i c hc => ?_⟩
  by_cases hi : h = i
  · subst hi
    simp [List.getElem?_set, hlt] at hc
    subst hc
    rw [ht]
    exact setRow_heap w _ _ _ _ _ (h3 h b hb)
  · rw [List.getElem?_set_ne hi] at hc
    have hlt2 : i < lb.length := (List.getElem?_eq_some_iff.1 hc).1
    rw [setRow_other w _ _ _ (fun e => hi ?_)]
    · exact h3 i c hc
    · rw [List.getD_eq_getElem?_getD, List.getD_eq_getElem?_getD, List.getElem?_eq_getElem (by omega), List.getElem?_eq_getElem (by omega), Option.getD_some, Option.getD_some] at e
      exact ((List.getElem_inj h2).1 e).symm
end Go.Proofs.Ytjbbakckckihnaa.Sx
