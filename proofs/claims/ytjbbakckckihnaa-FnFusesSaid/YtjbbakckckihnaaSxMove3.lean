/- Library: a checked symbolic machine over the model's code (part SxMove3). No conditions: each theorem says its own. -/
import Derived.Test.YtjbbakckckihnaaSxMove2
/-! Moves: a store into a row of one's own, a new row. -/
namespace Go.Proofs.Ytjbbakckckihnaa.Sx
set_option linter.unusedVariables false
set_option linter.unusedSimpArgs false
open Go.RowKit
def infoSz (P : Program) (t : Nat) : Option Nat :=
  match P.info? t with
  | some i => some i.size
  | none => none
def splice (cs : List Value) (o : Nat) (news : List Value) : List Value := cs.take o ++ news ++ cs.drop (o + news.length)
theorem splice_all {cs news : List Value} (h : news.length = cs.length) : splice cs 0 news = news := by
  simp [splice, h]
theorem splice_at {cs news : List Value} {o : Nat} (h : o + news.length ≤ cs.length) (j : Nat) : (splice cs o news)[j]? = if o ≤ j ∧ j < o + news.length then news[j - o]? else cs[j]? := by
  unfold splice
  by_cases h1 : j < o
  · rw [if_neg (by omega), List.append_assoc, List.getElem?_append_left (by simp; omega), List.getElem?_take_of_lt h1]
  · by_cases h2 : j < o + news.length
    · rw [if_pos ⟨by omega, h2⟩, List.getElem?_append_left (by simp; omega), List.getElem?_append_right (by simp; omega)]
      simp only [List.length_take]
      rw [show min o cs.length = o by omega]
    · rw [if_neg (by omega), List.getElem?_append_right (by simp; omega)]
      simp only [List.length_append, List.length_take, List.getElem?_drop]
      congr 1
      omega
section
variable {C : Cx} {F : List HA}
theorem store_part {α : Type} {d : Kn α} {xs : List α} {y : α} {A : List HA} {v : Value} {st : St} {tp T ty e i o g n c : Nat} {x : Operand} {dst : Option Tmp} {rg' : Rg} {sv : SV} {ad : Addr} {news : List Value}
    (he : atB C.B C.fn.ntmps st false = some (.store T (.tmp tp) x, ty, dst, rg')) (hT : infoSz C.P T = some news.length) (hp : lk st.tm tp = some (.one (.v (.pointer (some ad))))) (hv : v = .slice (some ⟨g, 0, none⟩) n c)
    (had : ad = (⟨g, 0, none⟩ : Addr).add (i * d.sz + o)) (hx : opv st.tm x = some sv) (hnews : cellsV sv.cells = some news) (hone : ∀ u ∈ news, u.oneCell' = true) (hi : i < xs.length) (ho : o + news.length ≤ d.sz)
    (hy : ∀ (h : Hp) (S1 S2 : Nat → Prop) cs, d.ow h S1 (xs[i]'hi) cs → sepL A h S2 → (∀ b, S1 b → ¬ S2 b) → d.ow h (fun b => S1 b ∨ S2 b) y (splice cs o news))
    (h : Holds C (rowA e d (xs.set i y) v :: F) ⟨rg', st.K, delO st.tm dst, st.lb⟩) : Holds C ((rowA e d xs v :: A) ++ F) st := by
  refine skip_at false he (fun L w hs => ?_)
  obtain ⟨S, ⟨S1, S2, a1, a2, a3, hrow, hA⟩, hS, hmut⟩ := hs.mut
  obtain ⟨A0, c0, hv0, hle, hmax, hcase⟩ := owRow_iff.1 (rowA_holds.1 hrow)
  rw [hv] at hv0
  obtain ⟨rfl, rfl, rfl⟩ : A0 = some ⟨g, 0, none⟩ ∧ n = xs.length ∧ c = c0 := by
    simp only [Value.slice.injEq] at hv0
    exact ⟨hv0.1.symm, hv0.2.1, hv0.2.2⟩
  rcases hcase with h0 | ⟨g', cells, hg', hSg, hg, hcs, T', t1, t2, t3⟩
  · omega
  cases hg'
  have hbig : i * d.sz + o + news.length ≤ cells.size := by
    rw [hcs]
    have h3 : (i + 1) * d.sz ≤ c * d.sz := Nat.mul_le_mul_right _ (by omega)
    rw [Nat.add_mul] at h3
    omega
  have hst := run_storeCells_at C.P g (i * d.sz + o) e news 0 cells w hg (by simpa using hbig) hone
  simp only [Nat.add_zero] at hst
  refine ⟨_, st.lb, w.setRow g (cells.toList.take (i * d.sz + o) ++ news ++ cells.toList.drop (i * d.sz + o + news.length)).toArray, ?_, fun hk => by (cases hk), ?_, h⟩
  · unfold infoSz at hT
    split at hT
    · rename_i inf hinf
      have hsize := Option.some.inj hT
      have e1 : opL L st.tm x = sv.val L := opL_v hx
      have e2 : (sv.val L).cells = news.toArray := by rw [SV.cells_val, cellsV_val hnews L]
      have e3 : (news.toArray).size = inf.size := by rw [hsize]; simp
      have ep : opL L st.tm (.tmp tp) = .pointer (some ad) := opL_tmp hp
      simp only [opOf, execOp, Instr.storeAt, ep, e1, Instr.sureAddr, Sem.run_bind, Sem.run_pure, Result.andThen_ok, storeVar, run_size hinf, e2, e3, ne_eq, not_true_eq_false, if_false, had, add_at, Nat.zero_add, hst]
    · cases hT
  · have hsetb : ∀ b, b ≠ g → (w.setRow g (cells.toList.take (i * d.sz + o) ++ news ++ cells.toList.drop (i * d.sz + o + news.length)).toArray).heap[b]? = w.heap[b]? := fun b hb => setRow_other w g b _ hb
    refine hmut _ [rowA e d (xs.set i y) v] rfl rfl rfl (by simp [World.setRow]) (fun b _ hb => hsetb b (fun e0 => hb (e0 ▸ a1 g hSg))) ?_
    refine ⟨_, fun _ => False, fun _ hb => hb, fun _ hb => hb.elim, fun _ _ hb => hb, rowA_holds.2 ?_, trivial⟩
    refine owRow_iff.2 ⟨some ⟨g, 0, none⟩, c, by rw [hv, List.length_set], by rw [List.length_set]; exact hle, hmax, .inr ⟨g, _, rfl, .inl (a1 g hSg), setRow_heap w g cells _ e _ hg, ?_, ?_⟩⟩
    · simp only [List.size_toArray, List.length_append, List.length_take, List.length_drop, Array.length_toList]
      omega
    · refine ⟨fun k b => if k = i then T' i b ∨ S2 b else T' k b, fun k b hb => ?_, fun k l b hne hk hl => ?_, fun k z hz => ?_⟩
      · by_cases hk : k = i
        · simp only [hk, if_true] at hb
          rcases hb with hb | hb
          · exact ⟨.inl (a1 b (t1 i b hb).1), (t1 i b hb).2⟩
          · exact ⟨.inl (a2 b hb), fun e0 => a3 g hSg (e0 ▸ hb)⟩
        · simp only [hk, if_false] at hb
          exact ⟨.inl (a1 b (t1 k b hb).1), (t1 k b hb).2⟩
      · by_cases hki : k = i
        · have hli : l ≠ i := fun e0 => hne (hki.trans e0.symm)
          simp only [hki, hli, if_true, if_false] at hk hl
          rcases hk with hk | hk
          · exact t2 i l b (fun e0 => hli e0.symm) hk hl
          · exact a3 b (t1 l b hl).1 hk
        · simp only [hki, if_false] at hk
          by_cases hli : l = i
          · simp only [hli, if_true] at hl
            rcases hl with hl | hl
            · exact t2 k i b hki hk hl
            · exact a3 b (t1 k b hk).1 hl
          · simp only [hli, if_false] at hl
            exact t2 k l b hne hk hl
      · have hloc : ∀ {S0 : Nat → Prop} {x0 : α} {cs0 : List Value}, (∀ b, S0 b → b ≠ g) → d.ow w.heap S0 x0 cs0 → d.ow (w.setRow g (cells.toList.take (i * d.sz + o) ++ news ++ cells.toList.drop (i * d.sz + o + news.length)).toArray).heap S0 x0 cs0 :=
          fun hb ho => d.loc (fun b hb0 _ => hsetb b (hb b hb0)) ho
        have hcell : ∀ q, (cells.toList.take (i * d.sz + o) ++ news ++ cells.toList.drop (i * d.sz + o + news.length)).toArray[q]? = if i * d.sz + o ≤ q ∧ q < i * d.sz + o + news.length then news[q - (i * d.sz + o)]? else cells[q]? := fun q => by
          have := splice_at (cs := cells.toList) (news := news) (o := i * d.sz + o) (by simpa using hbig) q
          unfold splice at this
          simp only [List.getElem?_toArray]
          rw [this]
          simp
        by_cases hk : k = i
        · subst hk
          rw [List.getElem?_set_self hi] at hz
          obtain rfl := Option.some.inj hz
          obtain ⟨cs, h3, h4⟩ := t3 k _ (List.getElem?_eq_getElem hi)
          have hlen := d.len (d.read h3)
          refine ⟨splice cs o news, ?_, fun j u hu => ?_⟩
          · simp only [if_true]
            exact hy _ _ _ cs (hloc (fun b hb => (t1 k b hb).2) h3) (sepL_loc (fun b hb _ => hsetb b (fun e0 => a3 g hSg (e0 ▸ hb))) hA) (fun b hb hc => a3 b (t1 k b hb).1 hc)
          · refine (hcell (k * d.sz + j)).trans ?_
            rw [splice_at (by omega)] at hu
            by_cases hj : o ≤ j ∧ j < o + news.length
            · rw [if_pos hj] at hu
              rw [if_pos (by omega), show k * d.sz + j - (k * d.sz + o) = j - o by omega]
              exact hu
            · rw [if_neg hj] at hu
              rw [if_neg (by omega)]
              exact h4 j u hu
        · rw [List.getElem?_set_ne (fun e0 => hk e0.symm)] at hz
          obtain ⟨cs, h3, h4⟩ := t3 k z hz
          have hlen := d.len (d.read h3)
          refine ⟨cs, by simpa only [hk, if_false] using hloc (fun b hb => (t1 k b hb).2) h3, fun j u hu => ?_⟩
          have hj : j < d.sz := by rw [← hlen]; exact (List.getElem?_eq_some_iff.1 hu).1
          refine (hcell (k * d.sz + j)).trans ?_
          rw [if_neg ?_]
          · exact h4 j u hu
          · rcases Nat.lt_or_gt_of_ne hk with hlt | hgt
            · have h5 : (k + 1) * d.sz ≤ i * d.sz := Nat.mul_le_mul_right _ hlt
              rw [Nat.add_mul] at h5
              omega
            · have h5 : (i + 1) * d.sz ≤ k * d.sz := Nat.mul_le_mul_right _ hgt
              rw [Nat.add_mul] at h5
              omega
/-- A whole element is stored. -/
theorem store_el {α : Type} {d : Kn α} {xs : List α} {y : α} {A : List HA} {v : Value} {st : St} {tp T ty e i g n c : Nat} {x : Operand} {dst : Option Tmp} {rg' : Rg} {sv : SV} {ad : Addr} {news : List Value}
    (he : atB C.B C.fn.ntmps st false = some (.store T (.tmp tp) x, ty, dst, rg')) (hT : infoSz C.P T = some d.sz) (hp : lk st.tm tp = some (.one (.v (.pointer (some ad))))) (hv : v = .slice (some ⟨g, 0, none⟩) n c)
    (had : ad = (⟨g, 0, none⟩ : Addr).add (i * d.sz)) (hx : opv st.tm x = some sv) (hnews : cellsV sv.cells = some news) (hi : i < xs.length)
    (hy : ∀ (h : Hp) (S : Nat → Prop), sepL A h S → d.ow h S y news)
    (h : Holds C (rowA e d (xs.set i y) v :: F) ⟨rg', st.K, delO st.tm dst, st.lb⟩) : Holds C ((rowA e d xs v :: A) ++ F) st := by
  refine h_conseq (fun L w hs => ⟨_, hs, ?_⟩)
  obtain ⟨_, _, S, _, hF0⟩ := hs
  obtain ⟨S1, _, _, _, _, ⟨_, S2, _, _, _, _, hA0⟩, _⟩ := sepL_append.1 hF0
  have h1 := hy w.heap S2 hA0
  have hlen := d.len (d.read h1)
  refine store_part (o := 0) he (by rw [hlen]; exact hT) hp hv (by simpa using had) hx hnews (d.one (d.read h1)) hi (by omega) (fun h S1 S2 cs hcs hA hd => ?_) h
  rw [splice_all (by rw [hlen, d.len (d.read hcs)])]
  exact d.mono (fun b hb => .inr hb) (hy h S2 hA)
def zeroOf (P : Program) (e : Nat) : Option (List Value) :=
  match P.info? e with
  | some i => match i.zero with
    | some z => some z.cells.toList
    | none => none
  | none => none
/-- A new row of zeros. -/
theorem make_at {α : Type} {d : Kn α} (n : Nat) (z0 : α) {st : St} {t ty e by_ : Nat} {ol oc : Operand} {dst : Option Tmp} {rg' : Rg} {k k' : IntKind} {jl jc : Int} (kk : Bool) {zc : List Value}
    (he : atB C.B C.fn.ntmps st kk = some (.makeSlice t ol oc, ty, dst, rg')) (hT : rowTy C.P t = some (e, d.sz, by_)) (hz : zeroOf C.P e = some zc) (hl : opv st.tm ol = some (.one (.v (.int k jl)))) (hc : opv st.tm oc = some (.one (.v (.int k' jc))))
    (hjl : jl = (n : Int)) (hjc : jc = (n : Int)) (hb : n * by_ ≤ 281474976710656) (hn : n ≤ maxLen) (hz0 : ∀ (h : Hp), d.ow h (fun _ => False) z0 zc)
    (h : ∀ g, Holds C (rowA e d (List.replicate n z0) (.slice (some ⟨g, 0, none⟩) n n) :: F) ⟨rg', st.K, ptO st.tm dst (.one (.v (.slice (some ⟨g, 0, none⟩) n n))), st.lb⟩) : Holds C F st := by
  refine prim_at kk he (fun L w hs => ?_)
  obtain ⟨i, z, hu, hi, hz', hsz, hzs, hby, h0⟩ := rowTy_spec hT
  have hzc : z.cells.toList = zc := by
    simp only [zeroOf, hi, hz', Option.some.injEq] at hz
    exact hz
  subst hjl hjc hby
  have hb' : (i.bytes : Int) * (n : Int) ≤ 281474976710656 := by
    have h1 : ((i.bytes * n : Nat) : Int) ≤ 281474976710656 := by rw [Nat.mul_comm] at hb; omega
    rwa [Int.natCast_mul] at h1
  have hn' : (n : Int) ≤ 9223372036854775807 := by have h2 := hn; simp [maxLen] at h2; omega
  have hr := run_make (P := C.P) w t e i z hu hi hz' k k' n n (by omega) (Int.le_refl _) hb' hn'
  simp only [Int.toNat_natCast] at hr
  have hfr : Fresh w (w.alloc (.cells (madeCells z.cells (n * i.size)) e)) [rowA e d (List.replicate n z0) (.slice (some ⟨w.heap.size, 0, none⟩) n n)] := by
    refine ⟨(Below.refl _ _).alloc (Nat.le_refl _) _, fun b => b = w.heap.size, fun b hb => ?_, fun b => b = w.heap.size, fun _ => False, fun _ hb => hb, fun _ hb => hb.elim, fun _ _ hb => hb, rowA_holds.2 (owRow_iff.2 ⟨some ⟨w.heap.size, 0, none⟩, n, by simp, by simp, hn, .inr ⟨w.heap.size, _, rfl, rfl, heap_alloc_new w _, ?_, ?_⟩⟩), trivial⟩
    · subst hb
      refine ⟨Nat.le_refl _, ?_⟩
      show _ < (w.heap.push _).size
      simp
    · rw [size_madeCells, hsz]
    · refine ⟨fun _ _ => False, fun _ _ hb => hb.elim, fun _ _ _ _ hb => hb.elim, fun q x hx => ⟨zc, ?_, fun j u hu => ?_⟩⟩
      · have : x = z0 := by
          have := List.mem_of_getElem? hx
          exact (List.mem_replicate.1 this).2
        subst this
        exact hz0 _
      · have hq : q < n := by
          have := (List.getElem?_eq_some_iff.1 hx).1
          simpa using this
        have hj : j < z.cells.size := by
          rw [← hzc] at hu
          have := (List.getElem?_eq_some_iff.1 hu).1
          simpa using this
        have hlt : q * d.sz + j < n * i.size := by
          rw [hsz]
          have h3 : (q + 1) * d.sz ≤ n * d.sz := Nat.mul_le_mul_right _ hq
          rw [Nat.add_mul] at h3
          omega
        have hmod : (q * d.sz + j) % z.cells.size = j := by
          rw [hzs, Nat.mul_comm, Nat.mul_add_mod, Nat.mod_eq_of_lt (by omega)]
        rw [← hzc] at hu
        simp only [madeCells, Array.getElem?_map, Array.getElem?_range, hlt, if_true, Option.map_some, hmod]
        rw [getElem!_pos z.cells j hj, ← hu]
        simp [hj]
  refine ⟨.one (.v (.slice (some ⟨w.heap.size, 0, none⟩) n n)), _, st.lb, _, ?_, fun _ b hb => Below.heap_alloc w _ b hb, hs.fresh hfr, h w.heap.size⟩
  simp only [opOf, execOp, opL_v hl, opL_v hc, SV.val, SC.val, hr, Sem.run_bind, Result.andThen_ok, Sem.run_pure]
end
end Go.Proofs.Ytjbbakckckihnaa.Sx
