/- Walks of functions of the program: what each call returns and what it leaves in memory. Conditions: those that each theorem names. -/
import Derived.Test.YtgleoebogikooaaA6
namespace Go.Proofs.Ytgleoebogikooaa.Dk
set_option linter.unusedVariables false
set_option linter.unusedSimpArgs false
open Go.Proofs.Ytgleoebogikooaa.Sx Go.Proofs Go.RowKit
set_option maxRecDepth 100000
set_option maxHeartbeats 1000000
def Pred {α : Type} (ev : Hp → α → Value → Prop) (F : Nat) (caps : Array Value) (w : World) (xs : List α) (p : α → Bool) : Prop :=
  ∀ w1 : World, (∀ b, b < w.heap.size → w1.heap[b]? = w.heap[b]?) → ∀ x ∈ xs, ∀ v, ev w1.heap x v → Calls Try.prog F (#[v] ++ caps) w1 fun e w2 => e = .returned (.bool (p x)) ∧ Below w1.heap.size w1 w2
def evA {α : Type} (d : Kn α) (h : Hp) (x : α) (v : Value) : Prop := ∃ cs, v = .agg cs.toArray ∧ d.rd h x cs
def evR {α : Type} (d : Kn α) (h : Hp) (x : List α) (v : Value) : Prop := rdRow d h x v
theorem Pred.ext {α : Type} {ev : Hp → α → Value → Prop} {F : Nat} {caps : Array Value} {w w' : World} {xs : List α} {p : α → Bool} (h : Pred ev F caps w xs p) (hb : ∀ b, b < w.heap.size → w'.heap[b]? = w.heap[b]?) (hsz : w.heap.size ≤ w'.heap.size) : Pred ev F caps w' xs p :=
  fun w1 h1 x hx v hv => h w1 (fun b hb' => (h1 b (Nat.lt_of_lt_of_le hb' hsz)).trans (hb b hb')) x hx v hv
def idxOf {α : Type} (p : α → Bool) (xs : List α) : Int := match xs.findIdx? p with
  | some i => i
  | none => -1
theorem idx_hit {α : Type} {p : α → Bool} {xs : List α} {i : Nat} (hi : i < xs.length) (h : ∀ x ∈ xs.take i, p x = false) (hp : p xs[i] = true) : idxOf p xs = i := by
  have : xs.findIdx? p = some i := by
    rw [List.findIdx?_eq_some_iff_getElem]
    refine ⟨hi, hp, fun j hj => ?_⟩
    have : xs[j]'(by omega) ∈ xs.take i := List.mem_take_iff_getElem.2 ⟨j, by omega, rfl⟩
    rw [h _ this]
    simp
  simp [idxOf, this]
theorem idx_none {α : Type} {p : α → Bool} {xs : List α} (h : ∀ x ∈ xs, p x = false) : idxOf p xs = -1 := by
  have : xs.findIdx? p = none := by rw [List.findIdx?_eq_none_iff]; exact h
  simp [idxOf, this]
theorem idx_ge {α : Type} (p : α → Bool) (xs : List α) : decide (idxOf p xs ≥ 0) = xs.any p := by
  cases h : xs.findIdx? p with
  | none =>
    have h1 : xs.any p = false := by rw [List.any_eq_false]; intro x hx; rw [List.findIdx?_eq_none_iff.1 h x hx]; simp
    rw [h1]
    simp [idxOf, h]
  | some i =>
    obtain ⟨hi, hp, _⟩ := List.findIdx?_eq_some_iff_getElem.1 h
    have h1 : xs.any p = true := List.any_eq_true.2 ⟨_, List.getElem_mem hi, hp⟩
    rw [h1]
    simp [idxOf, h]

theorem heap_grows {w w0 : World} (hb : ∀ b, b < w.heap.size → w0.heap[b]? = w.heap[b]?) : w.heap.size ≤ w0.heap.size := by
  rcases Nat.eq_zero_or_pos w.heap.size with h0 | h0
  · omega
  · have h1 := hb (w.heap.size - 1) (by omega)
    rw [Array.getElem?_eq_getElem (show w.heap.size - 1 < w.heap.size by omega)] at h1
    have := (Array.getElem?_eq_some_iff.1 h1).1
    omega
theorem indexEn_ok (F : Nat) (hF : goesB Try.prog F = true) (cv : Value) (p : En → Bool) (xs : List En) (vxs : Value) (w : World) (hxs : rdRow kEn w.heap xs vxs) (hl : xs.length ≤ 1048576) (hp : Pred (evA kEn) F #[cv] w xs p) :
    Calls Try.prog 108 #[vxs, .func (.func F) #[] #[cv]] w fun e w' => e = .returned (.int .i64 (idxOf p xs)) ∧ Below w.heap.size w w' := by
  obtain ⟨Axs, cxs, rfl⟩ := rdRow_form hxs
  refine enter (args := [.one (.v (.slice Axs xs.length cxs)), .one (.v (.func (.func F) #[] #[cv]))]) Try.func108 (c := bodyOf Try.f108) rfl rfl (start_LOK _) (start_old w) ?_
  refine go mixed 2000 [0, 1, 7, 8] 0 (St.mk Rg.no [kLp (bitL 5 29), KI.block 0, KI.code [true, true]] [(0, vS Axs xs.length cxs), (1, SV.one (SC.v (Value.func (Fn.func F) #[] #[cv]))), (7, vI (↑xs.length : Int)), (8, vI 0)] []) (by kernel_rfl) (by kernel_rfl) (by kernel_rfl) ?_
  refine loop_at (ι := Nat) (fun i => [(8, .one (.v (.int .i64 i)))]) (fun _ => []) (fun i => [oldA w]) (fun i => i ≤ xs.length ∧ ∀ x ∈ xs.take i, p x = false) (fun i => xs.length - i) 0 rfl rfl rfl ⟨Nat.zero_le _, fun x hx => by simp at hx⟩ ?_
  intro i hi ih
  refine go mixed 2000 [0, 1, 7, 8, 9] 0 (St.mk Rg.no [kCd (bitL 7 61), kCd (bitL 7 125), kLp (bitL 5 29), KI.block 0, KI.code [true, true]] [(0, vS Axs xs.length cxs), (1, SV.one (SC.v (Value.func (Fn.func F) #[] #[cv]))), (7, vI (↑xs.length : Int)), (8, vI (↑i : Int)), (9, vB (decide ((↑i : Int) < (↑xs.length : Int))))] []) (by kernel_rfl) (by kernel_rfl) (by kernel_rfl) ?_
  refine split_at 9 (b := decide ((↑i : Int) < (↑xs.length : Int))) (by kernel_rfl) (by kernel_rfl) ?_ ?_
  rotate_left
  · intro hb1
    replace hb1 := of_decide_eq_false hb1
    refine go mixed 2000 [4] 0 (St.mk Rg.no [kCd (bitL 3 7)] [(4, vI (-1))] []) (by kernel_rfl) (by kernel_rfl) (by kernel_rfl) ?_
    refine ret_ok (vs := [vI (-1)]) (by kernel_rfl) ?_
    intro L w1 hs
    exact ⟨retI (idx_none (fun x hx => hi.2 x (by rw [List.take_of_length_le (by omega)]; exact hx))).symm, hs.out0⟩
  intro hb1
  replace hb1 := of_decide_eq_true hb1
  refine go mixed 2000 [0, 1, 5, 7, 8, 11, 12, 13] 0 (St.mk (Rg.sq (bitL 11 893) 3) [kCd (bitL 11 1917), KI.block 1, kCd (bitL 8 253), kLp (bitL 5 29), KI.block 0, KI.code [true, true]] [(0, vS Axs xs.length cxs), (1, SV.one (SC.v (Value.func (Fn.func F) #[] #[cv]))), (5, vI (↑i : Int)), (7, vI (↑xs.length : Int)), (8, vI (↑i : Int)), (11, SV.one (SC.v (Value.func (Fn.func F) #[] #[cv]))), (12, vS Axs xs.length cxs), (13, vI (↑i : Int))] []) (by kernel_rfl) (by kernel_rfl) (by kernel_rfl) ?_
  refine index_at 3 (by kernel_rfl : atP _ _ _ 3 false = some (Op.indexAddr 34 (tmpO 12) (tmpO 13), 0, some 14, Rg.sq (bitL 11 893) 4)) (ni := i) (sz := 5) (by kernel_rfl) rfl rfl rfl (by omega) (fun L w1 hs => rd_some (i := i) (rdRow_ext (hs.old 0 rfl) hxs) (by omega)) ?_
  intro a_1 ha_1
  cases ha_1
  refine go mixed 2000 [0, 1, 5, 7, 8, 11, 14] 0 (St.mk (Rg.sq (bitL 11 893) 4) [kCd (bitL 11 1917), KI.block 1, kCd (bitL 8 253), kLp (bitL 5 29), KI.block 0, KI.code [true, true]] [(0, vS (some a_1) xs.length cxs), (1, SV.one (SC.v (Value.func (Fn.func F) #[] #[cv]))), (5, vI (↑i : Int)), (7, vI (↑xs.length : Int)), (8, vI (↑i : Int)), (11, SV.one (SC.v (Value.func (Fn.func F) #[] #[cv]))), (14, vP (a_1.add (i * 5)))] []) (by kernel_rfl) (by kernel_rfl) (by kernel_rfl) ?_
  obtain ⟨bkey_f_el1, Akey_t_el1, ckey_t_el1, hr1_el1, hr2_el1, hr3_el1, hc_el1⟩ := Go.Proofs.Ytgleoebogikooaa.Dk.kEn_at (i := i) hxs (by omega)
  refine load_agg 4 (by kernel_rfl : atP _ _ _ 4 true = some (Op.load 101 (tmpO 14), 101, some 15, Rg.sq (bitL 11 893) 5)) (n := 5) (by kernel_rfl) rfl ?_
  intro L w1 hs
  refine ⟨[.v (Value.int IntKind.i64 xs[i].key.kind), .v (Value.int IntKind.i64 xs[i].key.n), .v (Value.float FloatKind.f64 bkey_f_el1), .v (Value.slice Akey_t_el1 xs[i].key.t.length ckey_t_el1), .v (Value.int IntKind.i64 xs[i].id)], rfl, cells_at0 (cellsH_ext (hs.old 0 rfl) hc_el1) rfl, ?_⟩
  clear hs
  refine go mixed 2000 [0, 1, 5, 7, 8, 11, 15] 0 (St.mk (Rg.sq (bitL 11 893) 5) [kCd (bitL 11 1917), KI.block 1, kCd (bitL 8 253), kLp (bitL 5 29), KI.block 0, KI.code [true, true]] [(0, vS (some a_1) xs.length cxs), (1, SV.one (SC.v (Value.func (Fn.func F) #[] #[cv]))), (5, vI (↑i : Int)), (7, vI (↑xs.length : Int)), (8, vI (↑i : Int)), (11, SV.one (SC.v (Value.func (Fn.func F) #[] #[cv]))), (15, SV.agg [cI xs[i].key.kind, cI xs[i].key.n, cF bkey_f_el1, cS Akey_t_el1 xs[i].key.t.length ckey_t_el1, cI xs[i].id])] []) (by kernel_rfl) (by kernel_rfl) (by kernel_rfl) ?_
  have hlt : i < xs.length := by omega
  refine call_pure true (by kernel_rfl : atC _ _ _ true = some (F, [SV.agg [cI xs[i].key.kind, cI xs[i].key.n, cF bkey_f_el1, cS Akey_t_el1 xs[i].key.t.length ckey_t_el1, cI xs[i].id], SV.one (SC.v cv)], some 16, Rg.sq (bitL 11 893) 6)) hF (.one (.bo (p xs[i]))) (fun L w1 hs => hp w1 (hs.old 0 rfl) _ (List.getElem_mem hlt) _ ⟨_, rfl, kEn_mk hr1_el1 hr2_el1 (rdRow_ext (hs.old 0 rfl) hr3_el1)⟩) ?_
  refine go mixed 2000 [0, 1, 5, 7, 8, 16] 0 (St.mk Rg.no [kCd (bitL 11 1917), KI.block 1, kCd (bitL 8 253), kLp (bitL 5 29), KI.block 0, KI.code [true, true]] [(0, vS (some a_1) xs.length cxs), (1, SV.one (SC.v (Value.func (Fn.func F) #[] #[cv]))), (5, vI (↑i : Int)), (7, vI (↑xs.length : Int)), (8, vI (↑i : Int)), (16, vB (p xs[i]))] []) (by kernel_rfl) (by kernel_rfl) (by kernel_rfl) ?_
  refine split_at 16 (b := p xs[i]) (by kernel_rfl) (by kernel_rfl) ?_ ?_
  · intro h2
    refine go mixed 2000 [4] 0 (St.mk Rg.no [kCd (bitL 13 6013), KI.block 1, kCd (bitL 8 253), kLp (bitL 5 29), KI.block 0, KI.code [true, true]] [(4, vI (↑i : Int))] []) (by kernel_rfl) (by kernel_rfl) (by kernel_rfl) ?_
    refine ret_ok (vs := [vI (↑i : Int)]) (by kernel_rfl) ?_
    intro L w1 hs
    exact ⟨by rw [idx_hit hlt hi.2 h2]; rfl, hs.out0⟩
  intro h2
  refine go mixed 2000 [0, 1, 7, 8] 0 (St.mk Rg.no [kLp (bitL 5 29), KI.block 0, KI.code [true, true]] [(0, vS (some a_1) xs.length cxs), (1, SV.one (SC.v (Value.func (Fn.func F) #[] #[cv]))), (7, vI (↑xs.length : Int)), (8, vI (IntKind.i64.wrap ((↑i : Int) + 1)))] []) (by kernel_rfl) (by kernel_rfl) (by kernel_rfl) ?_
  rw [wrap_succ (by omega)]
  refine ih (i + 1) ⟨hlt, fun x hx => ?_⟩ (by omega)
  rw [List.take_succ_eq_append_getElem hlt] at hx
  rcases List.mem_append.1 hx with hx | hx
  · exact hi.2 x hx
  · rw [List.mem_singleton.1 hx]; exact h2

theorem containsEn_ok (F : Nat) (hF : goesB Try.prog F = true) (cv : Value) (p : En → Bool) (xs : List En) (vxs : Value) (w : World) (hxs : rdRow kEn w.heap xs vxs) (hl : xs.length ≤ 1048576) (hp : Pred (evA kEn) F #[cv] w xs p) :
    Calls Try.prog 176 #[vxs, .func (.func F) #[] #[cv]] w fun e w' => e = .returned (.bool (xs.any p)) ∧ Below w.heap.size w w' := by
  obtain ⟨Axs, cxs, rfl⟩ := rdRow_form hxs
  refine enter (args := [.one (.v (.slice Axs xs.length cxs)), .one (.v (.func (.func F) #[] #[cv]))]) Try.func176 (c := bodyOf Try.f176) rfl rfl (start_LOK _) (start_old w) ?_
  refine go mixed 2000 [5, 6] 0 (St.mk (Rg.sq [true, false] 2) [KI.code [true, true]] [(5, vS Axs xs.length cxs), (6, SV.one (SC.v (Value.func (Fn.func F) #[] #[cv])))] []) (by kernel_rfl) (by kernel_rfl) (by kernel_rfl) ?_
  refine call_pure true (by kernel_rfl : atC _ _ _ true = some (108, [vS Axs xs.length cxs, SV.one (SC.v (Value.func (Fn.func F) #[] #[cv]))], some 7, Rg.sq [true, false] 3)) (by kernel_rfl) (.one (.v (.int .i64 (idxOf p xs)))) (fun L w1 hs => indexEn_ok F hF cv p xs _ w1 (rdRow_ext (hs.old 0 rfl) hxs) hl (hp.ext (hs.old 0 rfl) hs.1.1.size)) ?_
  refine go mixed 2000 [4] 0 (St.mk Rg.no [KI.code [true, true]] [(4, vB (decide (idxOf p xs ≥ 0)))] []) (by kernel_rfl) (by kernel_rfl) (by kernel_rfl) ?_
  refine ret_ok (vs := [vB (decide (idxOf p xs ≥ 0))]) (by kernel_rfl) ?_
  intro L w1 hs
  exact ⟨by rw [← idx_ge]; rfl, hs.out0⟩

theorem notLitEn_ok (F : Nat) (hF : goesB Try.prog F = true) (p : En → Bool) (xs : List En) (g : Nat) (t : Nat) (w : World) (hg : w.heap[g]? = some (.cells #[.func (.func F) #[] #[]] t (0, 0))) (hp : Pred (evA kEn) F #[] w xs p) :
    Pred (evA kEn) 177 #[.pointer (some ⟨g, 0, none⟩)] w xs (fun x => !p x) := by
  intro w0 hb x hx v hv
  have hsz := heap_grows hb
  have hg0 : cellH w0.heap ⟨g, 0, none⟩ = some (.func (.func F) #[] #[]) := by
    have h1 := (hb g (Array.getElem?_eq_some_iff.1 hg).1).trans hg
    simp [cellH, h1]
  obtain ⟨cs, rfl, hx1⟩ := hv
  have hx0 := hx1
  obtain ⟨bxkey_f, Axkey_t, cxkey_t, rfl, hbxkey_f, hfxkey_f, hrxkey_t⟩ := kEn_inv hx1
  refine enter (args := [.agg [.v (.int .i64 x.key.kind), .v (.int .i64 x.key.n), .v (.float .f64 bxkey_f), .v (.slice Axkey_t x.key.t.length cxkey_t), .v (.int .i64 x.id)], .one (.v (.pointer (some ⟨g, 0, none⟩)))]) Try.func177 (c := bodyOf Try.f177) rfl rfl (start_LOK _) (start_old w0) ?_
  refine go mixed 2000 [1, 2] 1 (St.mk (Rg.sq [true, false] 0) [KI.code [true, true]] [(1, vP (Addr.mk g 0 none)), (2, vR 0 0)] [LB.mk [cI x.key.kind, cI x.key.n, cF bxkey_f, cS Axkey_t x.key.t.length cxkey_t, cI x.id] 101]) (by kernel_rfl) (by kernel_rfl) (by kernel_rfl) ?_
  refine load_one 0 (by kernel_rfl : atP _ _ _ 0 true = some (Op.load 111 (tmpO 1), 111, some 4, Rg.sq [true, false] 1)) (n := 1) (by kernel_rfl) rfl ?_
  intro L w1 hs
  refine ⟨.v (.func (.func F) #[] #[]), cellH_ext (hs.old 0 rfl) hg0, ?_⟩
  clear hs
  refine go mixed 2000 [4, 5] 0 (St.mk (Rg.sq [true, false] 2) [KI.code [true, true]] [(4, SV.one (SC.v (Value.func (Fn.func F) #[] #[]))), (5, SV.agg [cI x.key.kind, cI x.key.n, cF bxkey_f, cS Axkey_t x.key.t.length cxkey_t, cI x.id])] []) (by kernel_rfl) (by kernel_rfl) (by kernel_rfl) ?_
  refine call_pure true (by kernel_rfl : atC _ _ _ true = some (F, [SV.agg [cI x.key.kind, cI x.key.n, cF bxkey_f, cS Axkey_t x.key.t.length cxkey_t, cI x.id]], some 6, Rg.sq [true, false] 3)) hF (.one (.bo (p x))) (fun L w1 hs => hp w1 (fun b hb' => (hs.old 0 rfl b (Nat.lt_of_lt_of_le hb' hsz)).trans (hb b hb')) x hx _ ⟨_, rfl, kEn.ext (hs.old 0 rfl) hx0⟩) ?_
  refine go mixed 2000 [3] 0 (St.mk Rg.no [KI.code [true, true]] [(3, vB !p x)] []) (by kernel_rfl) (by kernel_rfl) (by kernel_rfl) ?_
  refine ret_ok (vs := [vB !p x]) (by kernel_rfl) ?_
  intro L w1 hs
  exact ⟨rfl, hs.out0⟩

theorem areAllEn_ok (F : Nat) (hF : goesB Try.prog F = true) (p : En → Bool) (xs : List En) (vxs : Value) (w : World) (hxs : rdRow kEn w.heap xs vxs) (hl : xs.length ≤ 1048576) (hp : Pred (evA kEn) F #[] w xs p) :
    Calls Try.prog 140 #[vxs, .func (.func F) #[] #[]] w fun e w' => e = .returned (.bool (xs.all p)) ∧ Below w.heap.size w w' := by
  obtain ⟨Axs, cxs, rfl⟩ := rdRow_form hxs
  refine enter (args := [.one (.v (.slice Axs xs.length cxs)), .one (.v (.func (.func F) #[] #[]))]) Try.func140 (c := bodyOf Try.f140) rfl rfl (start_LOK _) (start_old w) ?_
  refine go mixed 2000 [5, 6] 1 (St.mk (Rg.sq [true, false] 2) [KI.code [true, true]] [(5, vS Axs xs.length cxs), (6, SV.one (SC.fn 177 [Cap.p 0 0]))] [LB.mk [SC.v (Value.func (Fn.func F) #[] #[])] 111]) (by kernel_rfl) (by kernel_rfl) (by kernel_rfl) ?_
  refine call_pure true (by kernel_rfl : atC _ _ _ true = some (176, [vS Axs xs.length cxs, SV.one (SC.fn 177 [Cap.p 0 0])], some 7, Rg.sq [true, false] 3)) (by kernel_rfl) (.one (.bo (xs.any (fun x => !p x)))) (fun L w1 hs => containsEn_ok 177 (by kernel_rfl) _ (fun x => !p x) xs _ w1 (rdRow_ext (hs.old 0 rfl) hxs) hl (notLitEn_ok F hF p xs _ 111 w1 (hs.2.1.2.2 0 _ rfl) (hp.ext (hs.old 0 rfl) hs.1.1.size))) ?_
  refine go mixed 2000 [4] 0 (St.mk Rg.no [KI.code [true, true]] [(4, vB !xs.any fun x => !p x)] []) (by kernel_rfl) (by kernel_rfl) (by kernel_rfl) ?_
  refine ret_ok (vs := [vB !xs.any fun x => !p x]) (by kernel_rfl) ?_
  intro L w1 hs
  exact ⟨by rw [List.all_eq_not_any_not]; rfl, hs.out0⟩

theorem allEnt_ok (xs : List En) (vxs : Value) (w : World) (hxs : rdRow kEn w.heap xs vxs) (hl : xs.length ≤ 1048576) :
    Calls Try.prog 140 #[vxs, .func (.func 141) #[] #[]] w fun e w' => e = .returned (.bool (xs.all entOk)) ∧ Below w.heap.size w w' :=
  areAllEn_ok 141 (by kernel_rfl) entOk xs vxs w hxs hl (fun w1 hb x hx v ⟨cs, hv, hx1⟩ => by subst hv; exact iIsEntry_ok x cs w1 hx1)
end Go.Proofs.Ytgleoebogikooaa.Dk
