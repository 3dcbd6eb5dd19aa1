/- Walks of functions of the program: what each call returns and what it leaves in memory. Conditions: those that each theorem names. -/
import Derived.Test.YtjbbakckckihnaaE1
namespace Go.Proofs.Ytjbbakckckihnaa.Dk
set_option linter.unusedVariables false
set_option linter.unusedSimpArgs false
open Go.Proofs.Ytjbbakckckihnaa.Sx Go.Proofs Go.RowKit
set_option maxRecDepth 100000
theorem Pred.ext {α : Type} {ev : Hp → α → Value → Prop} {F : Nat} {caps : Array Value} {w w' : World} {xs : List α} {p : α → Bool} (h : Pred ev F caps w xs p) (hb : ∀ b, b < w.heap.size → w'.heap[b]? = w.heap[b]?) (hsz : w.heap.size ≤ w'.heap.size) : Pred ev F caps w' xs p :=
  fun w1 h1 x hx v hv => h w1 (fun b hb' => (h1 b (Nat.lt_of_lt_of_le hb' hsz)).trans (hb b hb')) x hx v hv
theorem containsB_ok (F : Nat) (hF : goesB Try.prog F = true) (cv : Value) (p : List Int → Bool) (xs : List (List Int)) (A : Option Addr) (c : Nat) (w : World) (h : rdRow kB w.heap xs (.slice A xs.length c)) (hl : xs.length ≤ 1048576) (hp : Pred evB F #[cv] w xs p) :
    Calls Try.prog 77 #[.slice A xs.length c, .func (.func F) #[] #[cv]] w fun e w' => e = .returned (.bool (xs.any p)) ∧ Below w.heap.size w w' := by
  refine enter (args := [.one (.v (.slice A xs.length c)), .one (.v (.func (.func F) #[] #[cv]))]) Try.func77 (c := bodyOf Try.f77) rfl rfl (start_LOK _) (start_old w) ?_
  refine go mixed 2000 [5, 6] 0 (St.mk (Rg.sq [true, false] 2) [KI.code [true, true]] [(5, SV.one (SC.v (Value.slice A xs.length c))), (6, SV.one (SC.v (Value.func (Fn.func F) #[] #[cv])))] []) (by kernel_rfl) (by kernel_rfl) (by kernel_rfl) ?_
  refine call_pure true (by kernel_rfl : atC _ _ _ true = some (81, [SV.one (SC.v (Value.slice A xs.length c)), SV.one (SC.v (Value.func (Fn.func F) #[] #[cv]))], some 7, Rg.sq [true, false] 3)) (by kernel_rfl) (.one (.v (.int .i64 (idxOf p xs)))) (fun L w1 hs => indexB_ok F hF cv p xs A c w1 (rdRow_ext (hs.old 0 rfl) h) hl (hp.ext (hs.old 0 rfl) hs.1.1.size)) ?_
  refine go mixed 2000 [4] 0 (St.mk Rg.no [KI.code [true, true]] [(4, SV.one (SC.bo (decide (idxOf p xs ≥ 0))))] []) (by kernel_rfl) (by kernel_rfl) (by kernel_rfl) ?_
  refine ret_ok (vs := [SV.one (SC.bo (decide (idxOf p xs ≥ 0)))]) (by kernel_rfl) ?_
  intro L w1 hs
  exact ⟨by rw [← idx_ge]; rfl, hs.out0⟩
theorem notLitB_ok (F : Nat) (hF : goesB Try.prog F = true) (caps : Array Value) (p : List Int → Bool) (xs : List (List Int)) (g : Nat) (t : Nat) (w : World) (hg : w.heap[g]? = some (.cells #[.func (.func F) #[] caps] t (0, 0))) (hcall : ∀ w1 : World, (∀ b, b < w.heap.size → w1.heap[b]? = w.heap[b]?) → ∀ x ∈ xs, ∀ v, evB w1.heap x v → Calls Try.prog F (#[v] ++ caps) w1 fun e w2 => e = .returned (.bool (p x)) ∧ Below w1.heap.size w1 w2) (hcaps : caps = #[] ∨ ∃ c1, caps = #[c1]) :
    Pred evB 78 #[.pointer (some ⟨g, 0, none⟩)] w xs (fun x => !p x) := by
  intro w0 hb x hx v hv
  have hg0 : cellH w0.heap ⟨g, 0, none⟩ = some (.func (.func F) #[] caps) := by
    have h1 := (hb g (Array.getElem?_eq_some_iff.1 hg).1).trans hg
    simp [cellH, h1]
  have hsz : w.heap.size ≤ w0.heap.size := by
    rcases Nat.eq_zero_or_pos w.heap.size with h0 | h0
    · omega
    · have h1 := hb (w.heap.size - 1) (by omega)
      rw [Array.getElem?_eq_getElem (show w.heap.size - 1 < w.heap.size by omega)] at h1
      have := (Array.getElem?_eq_some_iff.1 h1).1
      omega
  obtain ⟨Ai, ci, hv0, hrest⟩ := hv
  have hrow : rdRow kU8 w0.heap x (.slice Ai x.length ci) := ⟨Ai, ci, rfl, hrest⟩
  subst hv0
  rcases hcaps with rfl | ⟨c1, rfl⟩
  · refine enter (args := [.one (.v (.slice Ai x.length ci)), .one (.v (.pointer (some ⟨g, 0, none⟩)))]) Try.func78 (c := bodyOf Try.f78) rfl rfl (start_LOK _) (start_old w0) ?_
    refine go mixed 2000 [0, 1] 0 (St.mk (Rg.sq [true, false] 0) [KI.code [true, true]] [(0, SV.one (SC.v (Value.slice Ai x.length ci))), (1, SV.one (SC.v (Value.pointer (some (Addr.mk g 0 none)))))] []) (by kernel_rfl) (by kernel_rfl) (by kernel_rfl) ?_
    refine load_one 0 (by kernel_rfl : atP _ _ _ 0 true = some (Op.load 50 (Operand.tmp 1), 50, some 4, Rg.sq [true, false] 1)) (n := 1) (by kernel_rfl) rfl ?_
    intro L w1 hs
    refine ⟨.v (.func (.func F) #[] #[]), cellH_ext (hs.old 0 rfl) hg0, ?_⟩
    clear hs
    refine go mixed 2000 [4, 5] 0 (St.mk (Rg.sq [true, false] 2) [KI.code [true, true]] [(4, SV.one (SC.v (Value.func (Fn.func F) #[] #[]))), (5, SV.one (SC.v (Value.slice Ai x.length ci)))] []) (by kernel_rfl) (by kernel_rfl) (by kernel_rfl) ?_
    refine call_pure true (by kernel_rfl : atC _ _ _ true = some (F, [SV.one (SC.v (Value.slice Ai x.length ci))], some 6, Rg.sq [true, false] 3)) hF (.one (.bo (p x))) (fun L w1 hs => hcall w1 (fun b hb' => (hs.old 0 rfl b (Nat.lt_of_lt_of_le hb' hsz)).trans (hb b hb')) x hx _ (rdRow_ext (hs.old 0 rfl) hrow)) ?_
    refine go mixed 2000 [3] 0 (St.mk Rg.no [KI.code [true, true]] [(3, SV.one (SC.bo !p x))] []) (by kernel_rfl) (by kernel_rfl) (by kernel_rfl) ?_
    refine ret_ok (vs := [SV.one (SC.bo !p x)]) (by kernel_rfl) ?_
    intro L w1 hs
    exact ⟨rfl, hs.out0⟩
  · refine enter (args := [.one (.v (.slice Ai x.length ci)), .one (.v (.pointer (some ⟨g, 0, none⟩)))]) Try.func78 (c := bodyOf Try.f78) rfl rfl (start_LOK _) (start_old w0) ?_
    refine go mixed 2000 [0, 1] 0 (St.mk (Rg.sq [true, false] 0) [KI.code [true, true]] [(0, SV.one (SC.v (Value.slice Ai x.length ci))), (1, SV.one (SC.v (Value.pointer (some (Addr.mk g 0 none)))))] []) (by kernel_rfl) (by kernel_rfl) (by kernel_rfl) ?_
    refine load_one 0 (by kernel_rfl : atP _ _ _ 0 true = some (Op.load 50 (Operand.tmp 1), 50, some 4, Rg.sq [true, false] 1)) (n := 1) (by kernel_rfl) rfl ?_
    intro L w1 hs
    refine ⟨.v (.func (.func F) #[] #[c1]), cellH_ext (hs.old 0 rfl) hg0, ?_⟩
    clear hs
    refine go mixed 2000 [4, 5] 0 (St.mk (Rg.sq [true, false] 2) [KI.code [true, true]] [(4, SV.one (SC.v (Value.func (Fn.func F) #[] #[c1]))), (5, SV.one (SC.v (Value.slice Ai x.length ci)))] []) (by kernel_rfl) (by kernel_rfl) (by kernel_rfl) ?_
    refine call_pure true (by kernel_rfl : atC _ _ _ true = some (F, [SV.one (SC.v (Value.slice Ai x.length ci)), SV.one (SC.v c1)], some 6, Rg.sq [true, false] 3)) hF (.one (.bo (p x))) (fun L w1 hs => hcall w1 (fun b hb' => (hs.old 0 rfl b (Nat.lt_of_lt_of_le hb' hsz)).trans (hb b hb')) x hx _ (rdRow_ext (hs.old 0 rfl) hrow)) ?_
    refine go mixed 2000 [3] 0 (St.mk Rg.no [KI.code [true, true]] [(3, SV.one (SC.bo !p x))] []) (by kernel_rfl) (by kernel_rfl) (by kernel_rfl) ?_
    refine ret_ok (vs := [SV.one (SC.bo !p x)]) (by kernel_rfl) ?_
    intro L w1 hs
    exact ⟨rfl, hs.out0⟩
theorem areAllB_ok (F : Nat) (hF : goesB Try.prog F = true) (caps : List Cap) (p : List Int → Bool) (xs : List (List Int)) (A : Option Addr) (c : Nat) (w : World) (h : rdRow kB w.heap xs (.slice A xs.length c)) (hl : xs.length ≤ 1048576) (hp : Pred evB F (caps.map (Cap.val [])).toArray w xs p) (hcaps : caps = [] ∨ ∃ c1, caps = [.v c1]) :
    Calls Try.prog 61 #[.slice A xs.length c, .func (.func F) #[] (caps.map (Cap.val [])).toArray] w fun e w' => e = .returned (.bool (xs.all p)) ∧ Below w.heap.size w w' := by
  rcases hcaps with rfl | ⟨c1, rfl⟩
  · refine enter (args := [.one (.v (.slice A xs.length c)), .one (.v (.func (.func F) #[] #[]))]) Try.func61 (c := bodyOf Try.f61) rfl rfl (start_LOK _) (start_old w) ?_
    refine go mixed 2000 [5, 6] 1 (St.mk (Rg.sq [true, false] 2) [KI.code [true, true]] [(5, SV.one (SC.v (Value.slice A xs.length c))), (6, SV.one (SC.fn 78 [Cap.p 0 0]))] [LB.mk [SC.v (Value.func (Fn.func F) #[] #[])] 50]) (by kernel_rfl) (by kernel_rfl) (by kernel_rfl) ?_
    refine call_pure true (by kernel_rfl : atC _ _ _ true = some (77, [SV.one (SC.v (Value.slice A xs.length c)), SV.one (SC.fn 78 [Cap.p 0 0])], some 7, Rg.sq [true, false] 3)) (by kernel_rfl) (.one (.bo (xs.any (fun x => !p x)))) (fun L w1 hs => containsB_ok 78 (by kernel_rfl) _ (fun x => !p x) xs A c w1 (rdRow_ext (hs.old 0 rfl) h) hl (notLitB_ok F hF #[] p xs _ 50 w1 (hs.2.1.2.2 0 _ rfl) (hp.ext (hs.old 0 rfl) hs.1.1.size) (.inl rfl))) ?_
    refine go mixed 2000 [4] 0 (St.mk Rg.no [KI.code [true, true]] [(4, SV.one (SC.bo !xs.any fun x => !p x))] []) (by kernel_rfl) (by kernel_rfl) (by kernel_rfl) ?_
    refine ret_ok (vs := [SV.one (SC.bo !xs.any fun x => !p x)]) (by kernel_rfl) ?_
    intro L w1 hs
    exact ⟨by rw [List.all_eq_not_any_not]; rfl, hs.out0⟩
  · refine enter (args := [.one (.v (.slice A xs.length c)), .one (.v (.func (.func F) #[] #[c1]))]) Try.func61 (c := bodyOf Try.f61) rfl rfl (start_LOK _) (start_old w) ?_
    refine go mixed 2000 [5, 6] 1 (St.mk (Rg.sq [true, false] 2) [KI.code [true, true]] [(5, SV.one (SC.v (Value.slice A xs.length c))), (6, SV.one (SC.fn 78 [Cap.p 0 0]))] [LB.mk [SC.v (Value.func (Fn.func F) #[] #[c1])] 50]) (by kernel_rfl) (by kernel_rfl) (by kernel_rfl) ?_
    refine call_pure true (by kernel_rfl : atC _ _ _ true = some (77, [SV.one (SC.v (Value.slice A xs.length c)), SV.one (SC.fn 78 [Cap.p 0 0])], some 7, Rg.sq [true, false] 3)) (by kernel_rfl) (.one (.bo (xs.any (fun x => !p x)))) (fun L w1 hs => containsB_ok 78 (by kernel_rfl) _ (fun x => !p x) xs A c w1 (rdRow_ext (hs.old 0 rfl) h) hl (notLitB_ok F hF #[c1] p xs _ 50 w1 (hs.2.1.2.2 0 _ rfl) (hp.ext (hs.old 0 rfl) hs.1.1.size) (.inr ⟨c1, rfl⟩))) ?_
    refine go mixed 2000 [4] 0 (St.mk Rg.no [KI.code [true, true]] [(4, SV.one (SC.bo !xs.any fun x => !p x))] []) (by kernel_rfl) (by kernel_rfl) (by kernel_rfl) ?_
    refine ret_ok (vs := [SV.one (SC.bo !xs.any fun x => !p x)]) (by kernel_rfl) ?_
    intro L w1 hs
    exact ⟨by rw [List.all_eq_not_any_not]; rfl, hs.out0⟩
theorem containsW_ok (F : Nat) (hF : goesB Try.prog F = true) (cv : Value) (p : Int × List Int → Bool) (xs : List (Int × List Int)) (A : Option Addr) (c : Nat) (w : World) (h : rdRow kW w.heap xs (.slice A xs.length c)) (hl : xs.length ≤ 1048576) (hp : Pred evW F #[cv] w xs p) :
    Calls Try.prog 79 #[.slice A xs.length c, .func (.func F) #[] #[cv]] w fun e w' => e = .returned (.bool (xs.any p)) ∧ Below w.heap.size w w' := by
  refine enter (args := [.one (.v (.slice A xs.length c)), .one (.v (.func (.func F) #[] #[cv]))]) Try.func79 (c := bodyOf Try.f79) rfl rfl (start_LOK _) (start_old w) ?_
  refine go mixed 2000 [5, 6] 0 (St.mk (Rg.sq [true, false] 2) [KI.code [true, true]] [(5, SV.one (SC.v (Value.slice A xs.length c))), (6, SV.one (SC.v (Value.func (Fn.func F) #[] #[cv])))] []) (by kernel_rfl) (by kernel_rfl) (by kernel_rfl) ?_
  refine call_pure true (by kernel_rfl : atC _ _ _ true = some (82, [SV.one (SC.v (Value.slice A xs.length c)), SV.one (SC.v (Value.func (Fn.func F) #[] #[cv]))], some 7, Rg.sq [true, false] 3)) (by kernel_rfl) (.one (.v (.int .i64 (idxOf p xs)))) (fun L w1 hs => indexW_ok F hF cv p xs A c w1 (rdRow_ext (hs.old 0 rfl) h) hl (hp.ext (hs.old 0 rfl) hs.1.1.size)) ?_
  refine go mixed 2000 [4] 0 (St.mk Rg.no [KI.code [true, true]] [(4, SV.one (SC.bo (decide (idxOf p xs ≥ 0))))] []) (by kernel_rfl) (by kernel_rfl) (by kernel_rfl) ?_
  refine ret_ok (vs := [SV.one (SC.bo (decide (idxOf p xs ≥ 0)))]) (by kernel_rfl) ?_
  intro L w1 hs
  exact ⟨by rw [← idx_ge]; rfl, hs.out0⟩
theorem notLitW_ok (F : Nat) (hF : goesB Try.prog F = true) (caps : Array Value) (p : Int × List Int → Bool) (xs : List (Int × List Int)) (g : Nat) (t : Nat) (w : World) (hg : w.heap[g]? = some (.cells #[.func (.func F) #[] caps] t (0, 0))) (hcall : ∀ w1 : World, (∀ b, b < w.heap.size → w1.heap[b]? = w.heap[b]?) → ∀ x ∈ xs, ∀ v, evW w1.heap x v → Calls Try.prog F (#[v] ++ caps) w1 fun e w2 => e = .returned (.bool (p x)) ∧ Below w1.heap.size w1 w2) (hcaps : caps = #[] ∨ ∃ c1, caps = #[c1]) :
    Pred evW 80 #[.pointer (some ⟨g, 0, none⟩)] w xs (fun x => !p x) := by
  intro w0 hb x hx v hv
  have hg0 : cellH w0.heap ⟨g, 0, none⟩ = some (.func (.func F) #[] caps) := by
    have h1 := (hb g (Array.getElem?_eq_some_iff.1 hg).1).trans hg
    simp [cellH, h1]
  have hsz : w.heap.size ≤ w0.heap.size := by
    rcases Nat.eq_zero_or_pos w.heap.size with h0 | h0
    · omega
    · have h1 := hb (w.heap.size - 1) (by omega)
      rw [Array.getElem?_eq_getElem (show w.heap.size - 1 < w.heap.size by omega)] at h1
      have := (Array.getElem?_eq_some_iff.1 h1).1
      omega
  obtain ⟨Ai, ci, rfl, hrow⟩ := hv
  rcases hcaps with rfl | ⟨c1, rfl⟩
  · refine enter (args := [.agg [.v (.int .i64 x.1), .v (.slice Ai x.2.length ci)], .one (.v (.pointer (some ⟨g, 0, none⟩)))]) Try.func80 (c := bodyOf Try.f80) rfl rfl (start_LOK _) (start_old w0) ?_
    refine go mixed 2000 [1, 2] 1 (St.mk (Rg.sq [true, false] 0) [KI.code [true, true]] [(1, SV.one (SC.v (Value.pointer (some (Addr.mk g 0 none))))), (2, SV.one (SC.ptr 0 0))] [LB.mk [SC.v (Value.int IntKind.i64 x.fst), SC.v (Value.slice Ai x.snd.length ci)] 59]) (by kernel_rfl) (by kernel_rfl) (by kernel_rfl) ?_
    refine load_one 0 (by kernel_rfl : atP _ _ _ 0 true = some (Op.load 87 (Operand.tmp 1), 87, some 4, Rg.sq [true, false] 1)) (n := 1) (by kernel_rfl) rfl ?_
    intro L w1 hs
    refine ⟨.v (.func (.func F) #[] #[]), cellH_ext (hs.old 0 rfl) hg0, ?_⟩
    clear hs
    refine go mixed 2000 [4, 5] 0 (St.mk (Rg.sq [true, false] 2) [KI.code [true, true]] [(4, SV.one (SC.v (Value.func (Fn.func F) #[] #[]))), (5, SV.agg [SC.v (Value.int IntKind.i64 x.fst), SC.v (Value.slice Ai x.snd.length ci)])] []) (by kernel_rfl) (by kernel_rfl) (by kernel_rfl) ?_
    refine call_pure true (by kernel_rfl : atC _ _ _ true = some (F, [SV.agg [SC.v (Value.int IntKind.i64 x.fst), SC.v (Value.slice Ai x.snd.length ci)]], some 6, Rg.sq [true, false] 3)) hF (.one (.bo (p x))) (fun L w1 hs => hcall w1 (fun b hb' => (hs.old 0 rfl b (Nat.lt_of_lt_of_le hb' hsz)).trans (hb b hb')) x hx _ ⟨Ai, ci, rfl, rdRow_ext (hs.old 0 rfl) hrow⟩) ?_
    refine go mixed 2000 [3] 0 (St.mk Rg.no [KI.code [true, true]] [(3, SV.one (SC.bo !p x))] []) (by kernel_rfl) (by kernel_rfl) (by kernel_rfl) ?_
    refine ret_ok (vs := [SV.one (SC.bo !p x)]) (by kernel_rfl) ?_
    intro L w1 hs
    exact ⟨rfl, hs.out0⟩
  · refine enter (args := [.agg [.v (.int .i64 x.1), .v (.slice Ai x.2.length ci)], .one (.v (.pointer (some ⟨g, 0, none⟩)))]) Try.func80 (c := bodyOf Try.f80) rfl rfl (start_LOK _) (start_old w0) ?_
    refine go mixed 2000 [1, 2] 1 (St.mk (Rg.sq [true, false] 0) [KI.code [true, true]] [(1, SV.one (SC.v (Value.pointer (some (Addr.mk g 0 none))))), (2, SV.one (SC.ptr 0 0))] [LB.mk [SC.v (Value.int IntKind.i64 x.fst), SC.v (Value.slice Ai x.snd.length ci)] 59]) (by kernel_rfl) (by kernel_rfl) (by kernel_rfl) ?_
    refine load_one 0 (by kernel_rfl : atP _ _ _ 0 true = some (Op.load 87 (Operand.tmp 1), 87, some 4, Rg.sq [true, false] 1)) (n := 1) (by kernel_rfl) rfl ?_
    intro L w1 hs
    refine ⟨.v (.func (.func F) #[] #[c1]), cellH_ext (hs.old 0 rfl) hg0, ?_⟩
    clear hs
    refine go mixed 2000 [4, 5] 0 (St.mk (Rg.sq [true, false] 2) [KI.code [true, true]] [(4, SV.one (SC.v (Value.func (Fn.func F) #[] #[c1]))), (5, SV.agg [SC.v (Value.int IntKind.i64 x.fst), SC.v (Value.slice Ai x.snd.length ci)])] []) (by kernel_rfl) (by kernel_rfl) (by kernel_rfl) ?_
    refine call_pure true (by kernel_rfl : atC _ _ _ true = some (F, [SV.agg [SC.v (Value.int IntKind.i64 x.fst), SC.v (Value.slice Ai x.snd.length ci)], SV.one (SC.v c1)], some 6, Rg.sq [true, false] 3)) hF (.one (.bo (p x))) (fun L w1 hs => hcall w1 (fun b hb' => (hs.old 0 rfl b (Nat.lt_of_lt_of_le hb' hsz)).trans (hb b hb')) x hx _ ⟨Ai, ci, rfl, rdRow_ext (hs.old 0 rfl) hrow⟩) ?_
    refine go mixed 2000 [3] 0 (St.mk Rg.no [KI.code [true, true]] [(3, SV.one (SC.bo !p x))] []) (by kernel_rfl) (by kernel_rfl) (by kernel_rfl) ?_
    refine ret_ok (vs := [SV.one (SC.bo !p x)]) (by kernel_rfl) ?_
    intro L w1 hs
    exact ⟨rfl, hs.out0⟩
theorem areAllW_ok (F : Nat) (hF : goesB Try.prog F = true) (caps : List Cap) (p : Int × List Int → Bool) (xs : List (Int × List Int)) (A : Option Addr) (c : Nat) (w : World) (h : rdRow kW w.heap xs (.slice A xs.length c)) (hl : xs.length ≤ 1048576) (hp : Pred evW F (caps.map (Cap.val [])).toArray w xs p) (hcaps : caps = [] ∨ ∃ c1, caps = [.v c1]) :
    Calls Try.prog 63 #[.slice A xs.length c, .func (.func F) #[] (caps.map (Cap.val [])).toArray] w fun e w' => e = .returned (.bool (xs.all p)) ∧ Below w.heap.size w w' := by
  rcases hcaps with rfl | ⟨c1, rfl⟩
  · refine enter (args := [.one (.v (.slice A xs.length c)), .one (.v (.func (.func F) #[] #[]))]) Try.func63 (c := bodyOf Try.f63) rfl rfl (start_LOK _) (start_old w) ?_
    refine go mixed 2000 [5, 6] 1 (St.mk (Rg.sq [true, false] 2) [KI.code [true, true]] [(5, SV.one (SC.v (Value.slice A xs.length c))), (6, SV.one (SC.fn 80 [Cap.p 0 0]))] [LB.mk [SC.v (Value.func (Fn.func F) #[] #[])] 87]) (by kernel_rfl) (by kernel_rfl) (by kernel_rfl) ?_
    refine call_pure true (by kernel_rfl : atC _ _ _ true = some (79, [SV.one (SC.v (Value.slice A xs.length c)), SV.one (SC.fn 80 [Cap.p 0 0])], some 7, Rg.sq [true, false] 3)) (by kernel_rfl) (.one (.bo (xs.any (fun x => !p x)))) (fun L w1 hs => containsW_ok 80 (by kernel_rfl) _ (fun x => !p x) xs A c w1 (rdRow_ext (hs.old 0 rfl) h) hl (notLitW_ok F hF #[] p xs _ 87 w1 (hs.2.1.2.2 0 _ rfl) (hp.ext (hs.old 0 rfl) hs.1.1.size) (.inl rfl))) ?_
    refine go mixed 2000 [4] 0 (St.mk Rg.no [KI.code [true, true]] [(4, SV.one (SC.bo !xs.any fun x => !p x))] []) (by kernel_rfl) (by kernel_rfl) (by kernel_rfl) ?_
    refine ret_ok (vs := [SV.one (SC.bo !xs.any fun x => !p x)]) (by kernel_rfl) ?_
    intro L w1 hs
    exact ⟨by rw [List.all_eq_not_any_not]; rfl, hs.out0⟩
  · refine enter (args := [.one (.v (.slice A xs.length c)), .one (.v (.func (.func F) #[] #[c1]))]) Try.func63 (c := bodyOf Try.f63) rfl rfl (start_LOK _) (start_old w) ?_
    refine go mixed 2000 [5, 6] 1 (St.mk (Rg.sq [true, false] 2) [KI.code [true, true]] [(5, SV.one (SC.v (Value.slice A xs.length c))), (6, SV.one (SC.fn 80 [Cap.p 0 0]))] [LB.mk [SC.v (Value.func (Fn.func F) #[] #[c1])] 87]) (by kernel_rfl) (by kernel_rfl) (by kernel_rfl) ?_
    refine call_pure true (by kernel_rfl : atC _ _ _ true = some (79, [SV.one (SC.v (Value.slice A xs.length c)), SV.one (SC.fn 80 [Cap.p 0 0])], some 7, Rg.sq [true, false] 3)) (by kernel_rfl) (.one (.bo (xs.any (fun x => !p x)))) (fun L w1 hs => containsW_ok 80 (by kernel_rfl) _ (fun x => !p x) xs A c w1 (rdRow_ext (hs.old 0 rfl) h) hl (notLitW_ok F hF #[c1] p xs _ 87 w1 (hs.2.1.2.2 0 _ rfl) (hp.ext (hs.old 0 rfl) hs.1.1.size) (.inr ⟨c1, rfl⟩))) ?_
    refine go mixed 2000 [4] 0 (St.mk Rg.no [KI.code [true, true]] [(4, SV.one (SC.bo !xs.any fun x => !p x))] []) (by kernel_rfl) (by kernel_rfl) (by kernel_rfl) ?_
    refine ret_ok (vs := [SV.one (SC.bo !xs.any fun x => !p x)]) (by kernel_rfl) ?_
    intro L w1 hs
    exact ⟨by rw [List.all_eq_not_any_not]; rfl, hs.out0⟩
end Go.Proofs.Ytjbbakckckihnaa.Dk
