/- Library: a checked symbolic machine over the model's code (part SxMove2). No conditions: each theorem says its own. -/
import Derived.Test.YtjbbakckckihnaaSxMove
import Derived.Laws.MakeOwn
/-! Moves: reading an element, an address, a store, a new row. -/
namespace Go.Proofs.Ytjbbakckckihnaa.Sx
set_option linter.unusedVariables false
set_option linter.unusedSimpArgs false
open Go.RowKit
theorem add_add (a : Addr) (k j : Nat) : (a.add k).add j = a.add (k + j) := by
  unfold Addr.add
  by_cases hk : k = 0
  · subst hk; simp
  · by_cases hj : j = 0
    · subst hj; simp [hk]
    · rw [if_neg hk, if_neg hj, if_neg (by omega)]
      simp [Nat.add_assoc]
section
variable {C : Cx} {F : List HA}
theorem SOK.triv {lb : List LB} {L : List Nat} {w : World} {A : HA} (hs : SOK C F lb L w) (h : A.holds w.heap (fun _ => False)) : SOK C (A :: F) lb L w := by
  obtain ⟨h1, h2, S, hS, hF⟩ := hs
  exact ⟨h1, h2, S, hS, fun _ => False, S, fun _ hb => hb.elim, fun _ hb => hb, fun _ hb => hb.elim, h, hF⟩
theorem els_sc {α : Type} {f : α → Value} {hf : ∀ x, (f x).oneCell' = true} {h : Hp} {S : Nat → Prop} (ys : List α) : els (kVal f hf) h S ys (fun k => (ys.map f)[k]?) :=
  ⟨fun _ _ => False, fun _ _ hb => hb.elim, fun _ _ _ _ hb => hb.elim, fun i x hx => ⟨[f x], rfl, fun j u hu => by
    have hj : j = 0 := by
      have := (List.getElem?_eq_some_iff.1 hu).1
      simpa using this
    subst hj
    simp at hu
    subst hu
    show (ys.map f)[i * 1 + 0]? = _
    rw [Nat.mul_one, Nat.add_zero, List.getElem?_map, hx]
    rfl⟩⟩
theorem rdRow_sc {α : Type} {f : α → Value} {hf : ∀ x, (f x).oneCell' = true} {h : Hp} {ys : List α} {a : Addr} {c : Nat} (hr : rdRow (kVal f hf) h ys (.slice (some a) ys.length c)) : ∀ j u, (ys.map f)[j]? = some u → cellH h (a.add j) = some u := by
  obtain ⟨A, c', hv, _, _, hel⟩ := hr
  cases hv
  intro j u hu
  rw [List.getElem?_map] at hu
  cases hy : ys[j]? with
  | none => rw [hy] at hu; cases hu
  | some y =>
    rw [hy] at hu
    obtain rfl := Option.some.inj hu
    obtain ⟨cs, hcs, hcell⟩ := hel a rfl j y hy
    have hcs : cs = [f y] := hcs
    subst hcs
    have := hcell 0 (f y) rfl
    rw [show j * (kVal f hf).sz + 0 = j by show j * 1 + 0 = j; omega] at this
    exact this
theorem append_run0 {P : Program} {w : World} {t ty e : Nat} {i : TypeInfo} (ht : P.underlying t = some (.slice e)) (hi : P.info? e = some i) {A : Option Addr} {n m c : Nat} (hn : n ≤ m) :
    (Builtin.append_ #[t, t] ty #[.slice A n m, .slice none 0 c]).run P w = .ok (.slice A n m) w := by
  cases A <;> simp [Builtin.append_, run_underlying ht, sizeOf, typeInfo, hi, Builtin.lenOf, Builtin.firstCells, loadCells, loadCellsFrom, hn, storeCells]
/-- A row of plain elements is put behind a row. -/
theorem append_sc {α : Type} {f : α → Value} {hf : ∀ x, (f x).oneCell' = true} {xs ys : List α} {v : Value} {st : St} {ts tx t ty e by_ : Nat} {dst : Option Tmp} {rg' : Rg} {A : Option Addr} {c : Nat}
    (he : atB C.B C.fn.ntmps st false = some (.call { callee := .builtin .append, args := #[.tmp ts, .tmp tx], argTypes := #[t, t] }, ty, dst, rg')) (hT : rowTy C.P t = some (e, 1, by_))
    (hv : lk st.tm ts = some (.one (.v v))) (hx : lk st.tm tx = some (.one (.v (.slice A ys.length c)))) (hr : ∀ L w, SOK C (rowA e (kVal f hf) xs v :: F) st.lb L w → rdRow (kVal f hf) w.heap ys (.slice A ys.length c))
    (h63 : xs.length + ys.length ≤ maxLen) (hbytes : (xs.length + ys.length) * by_ ≤ 140737488355328)
    (h : ∀ A c, Holds C (rowA e (kVal f hf) (xs ++ ys) (.slice A (xs ++ ys).length c) :: F) ⟨rg', st.K, ptO st.tm dst (.one (.v (.slice A (xs ++ ys).length c))), st.lb⟩) : Holds C (rowA e (kVal f hf) xs v :: F) st := by
  refine prim_at false he (fun L w hs => ?_)
  have hrow := hr L w hs
  cases A with
  | none =>
    have h0 : ys = [] := by
      obtain ⟨A, c', hv', _, hne, _⟩ := hrow
      cases hv'
      apply List.eq_nil_of_length_eq_zero
      apply Nat.eq_zero_of_not_pos
      intro hpos
      obtain ⟨a, ha⟩ := hne hpos
      cases ha
    subst h0
    obtain ⟨i, z, hu, hi, _, _, _, _, _⟩ := rowTy_spec hT
    obtain ⟨S0, _, hrow0⟩ := hs.head
    obtain ⟨B, n, hv', hle, _⟩ := rowA_holds.1 hrow0
    subst hv'
    refine ⟨.one (.v (.slice B (xs ++ []).length n)), _, st.lb, w, exec_append ?_, fun hk => by (cases hk), ?_, h B n⟩
    · rw [opL_tmp hv, opL_tmp hx]
      simp only [List.append_nil]
      exact append_run0 hu hi hle
    · simpa only [List.append_nil] using hs
  | some a =>
    have hcells := rdRow_sc hrow
    obtain ⟨B, n, w', hr', hs'⟩ := append_grown (ys := ys) (A := []) (ty := ty) (c := c) (d := kVal f hf) (news := ys.map f) hs hT (by show (ys.map f).length = ys.length * 1; simp) (fun j u hu => hcells j u hu)
      (fun u hu => by obtain ⟨y, _, rfl⟩ := List.mem_map.1 hu; exact hf y) (fun S _ => els_sc ys) h63 hbytes
    refine ⟨.one (.v (.slice B (xs ++ ys).length n)), _, st.lb, w', exec_append ?_, fun hk => by (cases hk), hs', h B n⟩
    rw [opL_tmp hv, opL_tmp hx]
    exact hr'
/-- A literal of plain elements is put behind a row. -/
theorem append_scl {α : Type} {f : α → Value} {hf : ∀ x, (f x).oneCell' = true} {xs : List α} (ys : List α) {v : Value} {st : St} {ts tx t ty e by_ hh m : Nat} {dst : Option Tmp} {rg' : Rg} {cells : List SC} {e' : Nat}
    (he : atB C.B C.fn.ntmps st false = some (.call { callee := .builtin .append, args := #[.tmp ts, .tmp tx], argTypes := #[t, t] }, ty, dst, rg')) (hT : rowTy C.P t = some (e, 1, by_))
    (hv : lk st.tm ts = some (.one (.v v))) (hx : lk st.tm tx = some (.one (.sl hh 0 m m))) (hm : m = ys.length) (hb : st.lb[hh]? = some ⟨cells, e'⟩) (hc : cellsV cells = some (ys.map f))
    (h63 : xs.length + ys.length ≤ maxLen) (hbytes : (xs.length + ys.length) * by_ ≤ 140737488355328)
    (h : ∀ A c, Holds C (rowA e (kVal f hf) (xs ++ ys) (.slice A (xs ++ ys).length c) :: F) ⟨rg', st.K, ptO st.tm dst (.one (.v (.slice A (xs ++ ys).length c))), st.lb⟩) : Holds C (rowA e (kVal f hf) xs v :: F) st := by
  subst hm
  refine prim_at false he (fun L w hs => ?_)
  have hcell : ∀ j u, (ys.map f)[j]? = some u → w.cell? ((⟨L.getD hh 0, 0, none⟩ : Addr).add j) = some u := fun j u hu => by
    rw [add_at, cell_of_lb hs.2.1 hb, Nat.zero_add]
    have := cellsV_val hc L
    rw [← List.getElem?_map, this]
    exact hu
  obtain ⟨B, n, w', hr', hs'⟩ := append_grown (ys := ys) (A := []) (ty := ty) (c := ys.length) (d := kVal f hf) (news := ys.map f) hs hT (by show (ys.map f).length = ys.length * 1; simp) hcell
    (fun u hu => by obtain ⟨y, _, rfl⟩ := List.mem_map.1 hu; exact hf y) (fun S _ => els_sc ys) h63 hbytes
  refine ⟨.one (.v (.slice B (xs ++ ys).length n)), _, st.lb, w', exec_append ?_, fun hk => by (cases hk), hs', h B n⟩
  rw [opL_tmp hv, opL_tmp hx]
  exact hr'
/-! ### Addresses of elements, loads -/
def elSz (P : Program) (t : Nat) : Option Nat :=
  match P.underlying t with
  | some (.slice e) => match P.info? e with
    | some i => some i.size
    | none => none
  | _ => none
theorem opL_v {L : List Nat} {tm : List (Nat × SV)} {x : Operand} {v : SV} (h : opv tm x = some v) : opL L tm x = v.val L := by
  simp only [opL, h]
theorem index_at {st : St} (ip : Nat) {tx t ty sz n c ni : Nat} {ix : Operand} {dst : Option Tmp} {rg' : Rg} {A : Option Addr} {k : IntKind} {j : Int}
    (he : atP C.B C.fn.ntmps st ip false = some (.indexAddr t (.tmp tx) ix, ty, dst, rg')) (hT : elSz C.P t = some sz) (hx : lk st.tm tx = some (.one (.v (.slice A n c)))) (hi : opv st.tm ix = some (.one (.v (.int k j))))
    (hj : j = (ni : Int)) (hn : ni < n) (hA : ∀ L w, SOK C F st.lb L w → ∃ a, A = some a)
    (h : ∀ a, A = some a → Holds C F ⟨rg', st.K, ptO st.tm dst (.one (.v (.pointer (some (a.add (ni * sz)))))), st.lb⟩) : Holds C F st := by
  refine pure_at ip false he (fun L w hs => ?_)
  obtain ⟨a, ha⟩ := hA L w hs
  refine ⟨.one (.v (.pointer (some (a.add (ni * sz))))), F, fun w' _ => ?_, hs, h a ha⟩
  subst ha hj
  unfold elSz at hT
  split at hT
  · rename_i e hu
    split at hT
    · rename_i i hinf
      cases hT
      have hc : (0 : Int) ≤ (ni : Int) ∧ (ni : Int) < (n : Int) := by omega
      have h1 : (sizeOf e).run C.P w' = .ok i.size w' := run_size hinf w'
      simp only [opOf, execOp, Instr.indexAt, opL_tmp hx, opL_v hi, SV.val, SC.val, asIntOf, Sem.run_bind, Sem.run_pure, Result.andThen_ok, run_underlying hu, hc, and_self, if_true, h1, Int.toNat_natCast]
    · cases hT
  · cases hT
/-- One cell is loaded. -/
theorem load_one {st : St} (ip : Nat) {tp T ty n : Nat} {dst : Option Tmp} {rg' : Rg} {ad : Addr}
    (he : atP C.B C.fn.ntmps st ip true = some (.load T (.tmp tp), ty, dst, rg')) (hT : aggSz C.P T = some (false, n)) (hp : lk st.tm tp = some (.one (.v (.pointer (some ad)))))
    (h : ∀ L w, SOK C F st.lb L w → ∃ c : SC, cellH w.heap ad = some (c.val L) ∧ Holds C F ⟨rg', st.K, ptO st.tm dst (.one c), st.lb⟩) : Holds C F st := by
  refine pure_at ip true he (fun L w hs => ?_)
  obtain ⟨c, hc, hh⟩ := h L w hs
  refine ⟨.one c, F, fun w' hw' => ?_, hs, hh⟩
  obtain ⟨h1, h2⟩ := aggSz_run hT w'
  have hc' : w'.cell? ad = some (c.val L) := cellH_ext (hw' rfl) hc
  simp only [opOf, execOp, Instr.loadAt, opL_tmp hp, SV.val, SC.val, Instr.sureAddr, Sem.run_bind, Sem.run_pure, Result.andThen_ok, loadVar, h1, Bool.false_eq_true, if_false, load, Sem.run, hc']
/-- A whole struct is loaded. -/
theorem load_agg {st : St} (ip : Nat) {tp T ty n : Nat} {dst : Option Tmp} {rg' : Rg} {ad : Addr}
    (he : atP C.B C.fn.ntmps st ip true = some (.load T (.tmp tp), ty, dst, rg')) (hT : aggSz C.P T = some (true, n)) (hp : lk st.tm tp = some (.one (.v (.pointer (some ad)))))
    (h : ∀ L w, SOK C F st.lb L w → ∃ cs : List SC, cs.length = n ∧ (∀ j c, cs[j]? = some c → cellH w.heap (ad.add j) = some (c.val L)) ∧ Holds C F ⟨rg', st.K, ptO st.tm dst (.agg cs), st.lb⟩) : Holds C F st := by
  refine pure_at ip true he (fun L w hs => ?_)
  obtain ⟨cs, hl, hc, hh⟩ := h L w hs
  refine ⟨.agg cs, F, fun w' hw' => ?_, hs, hh⟩
  obtain ⟨h1, h2⟩ := aggSz_run hT w'
  have hload := run_loadCells_list (P := C.P) w' ad (cs.map (SC.val L)) (fun j u hu => by
    rw [List.getElem?_map] at hu
    cases hcj : cs[j]? with
    | none => rw [hcj] at hu; cases hu
    | some c =>
      rw [hcj] at hu
      obtain rfl := Option.some.inj hu
      exact cellH_ext (hw' rfl) (hc j c hcj))
  rw [List.length_map, hl] at hload
  simp only [opOf, execOp, Instr.loadAt, opL_tmp hp, SV.val, SC.val, Instr.sureAddr, Sem.run_bind, Sem.run_pure, Result.andThen_ok, loadVar, h1, if_true, h2, hload]
theorem rd_at {α : Type} {d : Kn α} {h : Hp} {xs : List α} {a : Addr} {n c : Nat} (hr : rdRow d h xs (.slice (some a) n c)) {i : Nat} {x : α} (hx : xs[i]? = some x) :
    ∃ cs, d.rd h x cs ∧ ∀ j u, cs[j]? = some u → cellH h ((a.add (i * d.sz)).add j) = some u := by
  obtain ⟨A, c', hv, _, _, hel⟩ := hr
  cases hv
  obtain ⟨cs, h1, h2⟩ := hel a rfl i x hx
  exact ⟨cs, h1, fun j u hu => by rw [add_add]; exact h2 j u hu⟩
theorem rd_some {α : Type} {d : Kn α} {h : Hp} {xs : List α} {A : Option Addr} {n c : Nat} (hr : rdRow d h xs (.slice A n c)) {i : Nat} (hi : i < n) : ∃ a, A = some a := by
  obtain ⟨A', c', hv, _, hne, _⟩ := hr
  cases hv
  exact hne (by omega)
theorem rd_sc {α : Type} {f : α → Value} {hf : ∀ x, (f x).oneCell' = true} {h : Hp} {xs : List α} {a : Addr} {n c : Nat} (hr : rdRow (kVal f hf) h xs (.slice (some a) n c)) {i : Nat} (hi : i < xs.length) : cellH h (a.add (i * 1)) = some (f xs[i]) := by
  obtain ⟨cs, h1, h2⟩ := rd_at hr (List.getElem?_eq_getElem hi)
  have h1 : cs = [f xs[i]] := h1
  subst h1
  have := h2 0 _ rfl
  rw [add_add, Nat.add_zero] at this
  exact this
end
end Go.Proofs.Ytjbbakckckihnaa.Sx
