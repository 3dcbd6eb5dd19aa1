/- Walks of functions of the program: what each call returns and what it leaves in memory. Conditions: those that each theorem names. -/
import Derived.Test.YtjbbakckckihnaaD9
namespace Go.Proofs.Ytjbbakckckihnaa.Dk
set_option linter.unusedVariables false
set_option linter.unusedSimpArgs false
open Go.Proofs.Ytjbbakckckihnaa.Sx Go.Proofs Go.RowKit
set_option maxRecDepth 100000
def Pred {α : Type} (ev : Hp → α → Value → Prop) (F : Nat) (caps : Array Value) (w : World) (xs : List α) (p : α → Bool) : Prop :=
  ∀ w1 : World, (∀ b, b < w.heap.size → w1.heap[b]? = w.heap[b]?) → ∀ x ∈ xs, ∀ v, ev w1.heap x v → Calls Try.prog F (#[v] ++ caps) w1 fun e w2 => e = .returned (.bool (p x)) ∧ Below w1.heap.size w1 w2
def evB (h : Hp) (x : List Int) (v : Value) : Prop := rdRow kU8 h x v
def evW (h : Hp) (x : Int × List Int) (v : Value) : Prop := ∃ A c, v = .agg #[.int .i64 x.1, .slice A x.2.length c] ∧ rdRow kU8 h x.2 (.slice A x.2.length c)
def idxOf {α : Type} (p : α → Bool) (xs : List α) : Int := match xs.findIdx? p with
  | some i => i
  | none => -1
theorem idx_hit {α : Type} {p : α → Bool} {xs : List α} {i : Nat} (hi : i < xs.length) (h : ∀ x ∈ xs.take i, p x = false) (hp : p xs[i] = true) : idxOf p xs = i := by
  have : xs.findIdx? p = some i := by
    rw [List.findIdx?_eq_some_iff_getElem]
    refine ⟨hi, hp, fun j hj => ?_⟩
    have : xs[j]'(by omega) ∈ xs.take i := List.mem_take_iff_getElem.2 ⟨j, by omega, rfl⟩
    rw [h _ this]
    simp
  simp [idxOf, this]
theorem idx_none {α : Type} {p : α → Bool} {xs : List α} (h : ∀ x ∈ xs, p x = false) : idxOf p xs = -1 := by
  have : xs.findIdx? p = none := by rw [List.findIdx?_eq_none_iff]; exact h
  simp [idxOf, this]
theorem idx_ge {α : Type} (p : α → Bool) (xs : List α) : decide (idxOf p xs ≥ 0) = xs.any p := by
  cases h : xs.findIdx? p with
  | none =>
    have h1 : xs.any p = false := by rw [List.any_eq_false]; intro x hx; rw [List.findIdx?_eq_none_iff.1 h x hx]; simp
    rw [h1]
    simp [idxOf, h]
  | some i =>
    obtain ⟨hi, hp, _⟩ := List.findIdx?_eq_some_iff_getElem.1 h
    have h1 : xs.any p = true := List.any_eq_true.2 ⟨_, List.getElem_mem hi, hp⟩
    rw [h1]
    simp [idxOf, h]
theorem indexB_ok (F : Nat) (hF : goesB Try.prog F = true) (cv : Value) (p : List Int → Bool) (xs : List (List Int)) (A : Option Addr) (c : Nat) (w : World) (h : rdRow kB w.heap xs (.slice A xs.length c)) (hl : xs.length ≤ 1048576) (hp : Pred evB F #[cv] w xs p) :
    Calls Try.prog 81 #[.slice A xs.length c, .func (.func F) #[] #[cv]] w fun e w' => e = .returned (.int .i64 (idxOf p xs)) ∧ Below w.heap.size w w' := by
  refine enter (args := [.one (.v (.slice A xs.length c)), .one (.v (.func (.func F) #[] #[cv]))]) Try.func81 (c := bodyOf Try.f81) rfl rfl (start_LOK _) (start_old w) ?_
  refine go mixed 2000 [0, 1, 7, 8] 0 (St.mk Rg.no [KI.loop [true, false, true, true, true], KI.block 0, KI.code [true, true]] [(0, SV.one (SC.v (Value.slice A xs.length c))), (1, SV.one (SC.v (Value.func (Fn.func F) #[] #[cv]))), (7, SV.one (SC.v (Value.int IntKind.i64 (↑xs.length : Int)))), (8, SV.one (SC.v (Value.int IntKind.i64 0)))] []) (by kernel_rfl) (by kernel_rfl) (by kernel_rfl) ?_
  refine loop_at (ι := Nat) (fun i => [(8, .one (.v (.int .i64 i)))]) (fun i => []) (fun i => [oldA w]) (fun i => i ≤ xs.length ∧ ∀ x ∈ xs.take i, p x = false) (fun i => xs.length - i) 0 rfl rfl (by simp) ⟨Nat.zero_le _, fun x hx => by simp at hx⟩ ?_
  intro i hi ih
  refine go mixed 2000 [0, 1, 7, 8, 9] 0 (St.mk Rg.no [KI.code [true, false, true, true, true, true, false], KI.code [true, false, true, true, true, true, true], KI.loop [true, false, true, true, true], KI.block 0, KI.code [true, true]] [(0, SV.one (SC.v (Value.slice A xs.length c))), (1, SV.one (SC.v (Value.func (Fn.func F) #[] #[cv]))), (7, SV.one (SC.v (Value.int IntKind.i64 (↑xs.length : Int)))), (8, SV.one (SC.v (Value.int IntKind.i64 (↑i : Int)))), (9, SV.one (SC.bo (decide ((↑i : Int) < (↑xs.length : Int)))))] []) (by kernel_rfl) (by kernel_rfl) (by kernel_rfl) ?_
  refine split_at 9 (b := decide ((↑i : Int) < (↑xs.length : Int))) (by kernel_rfl) (by kernel_rfl) ?_ ?_
  · intro h1
    have hlt : i < xs.length := by simpa using h1
    refine go mixed 2000 [0, 1, 5, 7, 8, 11, 12, 13] 0 (St.mk (Rg.sq [true, false, true, true, true, true, true, false, true, true, false] 3) [KI.code [true, false, true, true, true, true, true, false, true, true, true], KI.block 1, KI.code [true, false, true, true, true, true, true, true], KI.loop [true, false, true, true, true], KI.block 0, KI.code [true, true]] [(0, SV.one (SC.v (Value.slice A xs.length c))), (1, SV.one (SC.v (Value.func (Fn.func F) #[] #[cv]))), (5, SV.one (SC.v (Value.int IntKind.i64 (↑i : Int)))), (7, SV.one (SC.v (Value.int IntKind.i64 (↑xs.length : Int)))), (8, SV.one (SC.v (Value.int IntKind.i64 (↑i : Int)))), (11, SV.one (SC.v (Value.func (Fn.func F) #[] #[cv]))), (12, SV.one (SC.v (Value.slice A xs.length c))), (13, SV.one (SC.v (Value.int IntKind.i64 (↑i : Int))))] []) (by kernel_rfl) (by kernel_rfl) (by kernel_rfl) ?_
    refine index_at 3 (by kernel_rfl : atP _ _ _ 3 false = some (Op.indexAddr 22 (Operand.tmp 12) (Operand.tmp 13), 0, some 14, Rg.sq [true, false, true, true, true, true, true, false, true, true, false] 4)) (sz := 1) (by kernel_rfl) rfl rfl rfl hlt (fun L w1 hs => rd_some (rdRow_ext (hs.old 0 rfl) h) hlt) ?_
    intro a_1 ha_; cases ha_
    refine go mixed 2000 [0, 1, 5, 7, 8, 11, 14] 0 (St.mk (Rg.sq [true, false, true, true, true, true, true, false, true, true, false] 4) [KI.code [true, false, true, true, true, true, true, false, true, true, true], KI.block 1, KI.code [true, false, true, true, true, true, true, true], KI.loop [true, false, true, true, true], KI.block 0, KI.code [true, true]] [(0, SV.one (SC.v (Value.slice (some a_1) xs.length c))), (1, SV.one (SC.v (Value.func (Fn.func F) #[] #[cv]))), (5, SV.one (SC.v (Value.int IntKind.i64 (↑i : Int)))), (7, SV.one (SC.v (Value.int IntKind.i64 (↑xs.length : Int)))), (8, SV.one (SC.v (Value.int IntKind.i64 (↑i : Int)))), (11, SV.one (SC.v (Value.func (Fn.func F) #[] #[cv]))), (14, SV.one (SC.v (Value.pointer (some (a_1.add (i * 1))))))] []) (by kernel_rfl) (by kernel_rfl) (by kernel_rfl) ?_
    obtain ⟨Ai, ci, hcell, hrow⟩ := rd_row h hlt
    refine load_one 4 (by kernel_rfl : atP _ _ _ 4 true = some (Op.load 36 (Operand.tmp 14), 36, some 15, Rg.sq [true, false, true, true, true, true, true, false, true, true, false] 5)) (n := 1) (by kernel_rfl) rfl ?_
    intro L w1 hs
    refine ⟨.v (.slice Ai _ ci), cellH_ext (hs.old 0 rfl) hcell, ?_⟩
    clear hs
    refine go mixed 2000 [0, 1, 5, 7, 8, 11, 15] 0 (St.mk (Rg.sq [true, false, true, true, true, true, true, false, true, true, false] 5) [KI.code [true, false, true, true, true, true, true, false, true, true, true], KI.block 1, KI.code [true, false, true, true, true, true, true, true], KI.loop [true, false, true, true, true], KI.block 0, KI.code [true, true]] [(0, SV.one (SC.v (Value.slice (some a_1) xs.length c))), (1, SV.one (SC.v (Value.func (Fn.func F) #[] #[cv]))), (5, SV.one (SC.v (Value.int IntKind.i64 (↑i : Int)))), (7, SV.one (SC.v (Value.int IntKind.i64 (↑xs.length : Int)))), (8, SV.one (SC.v (Value.int IntKind.i64 (↑i : Int)))), (11, SV.one (SC.v (Value.func (Fn.func F) #[] #[cv]))), (15, SV.one (SC.v (Value.slice Ai xs[i].length ci)))] []) (by kernel_rfl) (by kernel_rfl) (by kernel_rfl) ?_
    refine call_pure true (by kernel_rfl : atC _ _ _ true = some (F, [SV.one (SC.v (Value.slice Ai xs[i].length ci)), SV.one (SC.v cv)], some 16, Rg.sq [true, false, true, true, true, true, true, false, true, true, false] 6)) hF (.one (.bo (p xs[i]))) (fun L w1 hs => hp w1 (hs.old 0 rfl) _ (List.getElem_mem hlt) _ (rdRow_ext (hs.old 0 rfl) hrow)) ?_
    refine go mixed 2000 [0, 1, 5, 7, 8, 16] 0 (St.mk Rg.no [KI.code [true, false, true, true, true, true, true, false, true, true, true], KI.block 1, KI.code [true, false, true, true, true, true, true, true], KI.loop [true, false, true, true, true], KI.block 0, KI.code [true, true]] [(0, SV.one (SC.v (Value.slice (some a_1) xs.length c))), (1, SV.one (SC.v (Value.func (Fn.func F) #[] #[cv]))), (5, SV.one (SC.v (Value.int IntKind.i64 (↑i : Int)))), (7, SV.one (SC.v (Value.int IntKind.i64 (↑xs.length : Int)))), (8, SV.one (SC.v (Value.int IntKind.i64 (↑i : Int)))), (16, SV.one (SC.bo (p xs[i])))] []) (by kernel_rfl) (by kernel_rfl) (by kernel_rfl) ?_
    refine split_at 16 (b := p xs[i]) (by kernel_rfl) (by kernel_rfl) ?_ ?_
    · intro h2
      refine go mixed 2000 [4] 0 (St.mk Rg.no [KI.code [true, false, true, true, true, true, true, false, true, true, true, false, true], KI.block 1, KI.code [true, false, true, true, true, true, true, true], KI.loop [true, false, true, true, true], KI.block 0, KI.code [true, true]] [(4, SV.one (SC.v (Value.int IntKind.i64 (↑i : Int))))] []) (by kernel_rfl) (by kernel_rfl) (by kernel_rfl) ?_
      refine ret_ok (vs := [SV.one (SC.v (Value.int IntKind.i64 (↑i : Int)))]) (by kernel_rfl) ?_
      intro L w1 hs
      exact ⟨by rw [idx_hit hlt hi.2 h2]; rfl, hs.out0⟩
    intro h2
    refine go mixed 2000 [0, 1, 7, 8] 0 (St.mk Rg.no [KI.loop [true, false, true, true, true], KI.block 0, KI.code [true, true]] [(0, SV.one (SC.v (Value.slice (some a_1) xs.length c))), (1, SV.one (SC.v (Value.func (Fn.func F) #[] #[cv]))), (7, SV.one (SC.v (Value.int IntKind.i64 (↑xs.length : Int)))), (8, SV.one (SC.v (Value.int IntKind.i64 (IntKind.i64.wrap ((↑i : Int) + 1)))))] []) (by kernel_rfl) (by kernel_rfl) (by kernel_rfl) ?_
    rw [wrap_succ (by omega)]
    refine ih (i + 1) ⟨hlt, fun x hx => ?_⟩ (by omega)
    rw [List.take_succ_eq_append_getElem hlt] at hx
    rcases List.mem_append.1 hx with hx | hx
    · exact hi.2 x hx
    · rw [List.mem_singleton.1 hx]; exact h2
  · intro h1
    refine go mixed 2000 [4] 0 (St.mk Rg.no [KI.code [true, true, true]] [(4, SV.one (SC.v (Value.int IntKind.i64 (-1))))] []) (by kernel_rfl) (by kernel_rfl) (by kernel_rfl) ?_
    refine ret_ok (vs := [SV.one (SC.v (Value.int IntKind.i64 (-1)))]) (by kernel_rfl) ?_
    intro L w1 hs
    have hi2 : i = xs.length := by
      have : ¬ i < xs.length := by simpa using h1
      have := hi.1
      omega
    subst hi2
    exact ⟨by rw [idx_none (fun x hx => hi.2 x (by rw [List.take_length]; exact hx))]; rfl, hs.out0⟩
theorem indexW_ok (F : Nat) (hF : goesB Try.prog F = true) (cv : Value) (p : Int × List Int → Bool) (xs : List (Int × List Int)) (A : Option Addr) (c : Nat) (w : World) (h : rdRow kW w.heap xs (.slice A xs.length c)) (hl : xs.length ≤ 1048576) (hp : Pred evW F #[cv] w xs p) :
    Calls Try.prog 82 #[.slice A xs.length c, .func (.func F) #[] #[cv]] w fun e w' => e = .returned (.int .i64 (idxOf p xs)) ∧ Below w.heap.size w w' := by
  refine enter (args := [.one (.v (.slice A xs.length c)), .one (.v (.func (.func F) #[] #[cv]))]) Try.func82 (c := bodyOf Try.f82) rfl rfl (start_LOK _) (start_old w) ?_
  refine go mixed 2000 [0, 1, 7, 8] 0 (St.mk Rg.no [KI.loop [true, false, true, true, true], KI.block 0, KI.code [true, true]] [(0, SV.one (SC.v (Value.slice A xs.length c))), (1, SV.one (SC.v (Value.func (Fn.func F) #[] #[cv]))), (7, SV.one (SC.v (Value.int IntKind.i64 (↑xs.length : Int)))), (8, SV.one (SC.v (Value.int IntKind.i64 0)))] []) (by kernel_rfl) (by kernel_rfl) (by kernel_rfl) ?_
  refine loop_at (ι := Nat) (fun i => [(8, .one (.v (.int .i64 i)))]) (fun i => []) (fun i => [oldA w]) (fun i => i ≤ xs.length ∧ ∀ x ∈ xs.take i, p x = false) (fun i => xs.length - i) 0 rfl rfl (by simp) ⟨Nat.zero_le _, fun x hx => by simp at hx⟩ ?_
  intro i hi ih
  refine go mixed 2000 [0, 1, 7, 8, 9] 0 (St.mk Rg.no [KI.code [true, false, true, true, true, true, false], KI.code [true, false, true, true, true, true, true], KI.loop [true, false, true, true, true], KI.block 0, KI.code [true, true]] [(0, SV.one (SC.v (Value.slice A xs.length c))), (1, SV.one (SC.v (Value.func (Fn.func F) #[] #[cv]))), (7, SV.one (SC.v (Value.int IntKind.i64 (↑xs.length : Int)))), (8, SV.one (SC.v (Value.int IntKind.i64 (↑i : Int)))), (9, SV.one (SC.bo (decide ((↑i : Int) < (↑xs.length : Int)))))] []) (by kernel_rfl) (by kernel_rfl) (by kernel_rfl) ?_
  refine split_at 9 (b := decide ((↑i : Int) < (↑xs.length : Int))) (by kernel_rfl) (by kernel_rfl) ?_ ?_
  · intro h1
    have hlt : i < xs.length := by simpa using h1
    refine go mixed 2000 [0, 1, 5, 7, 8, 11, 12, 13] 0 (St.mk (Rg.sq [true, false, true, true, true, true, true, false, true, true, false] 3) [KI.code [true, false, true, true, true, true, true, false, true, true, true], KI.block 1, KI.code [true, false, true, true, true, true, true, true], KI.loop [true, false, true, true, true], KI.block 0, KI.code [true, true]] [(0, SV.one (SC.v (Value.slice A xs.length c))), (1, SV.one (SC.v (Value.func (Fn.func F) #[] #[cv]))), (5, SV.one (SC.v (Value.int IntKind.i64 (↑i : Int)))), (7, SV.one (SC.v (Value.int IntKind.i64 (↑xs.length : Int)))), (8, SV.one (SC.v (Value.int IntKind.i64 (↑i : Int)))), (11, SV.one (SC.v (Value.func (Fn.func F) #[] #[cv]))), (12, SV.one (SC.v (Value.slice A xs.length c))), (13, SV.one (SC.v (Value.int IntKind.i64 (↑i : Int))))] []) (by kernel_rfl) (by kernel_rfl) (by kernel_rfl) ?_
    refine index_at 3 (by kernel_rfl : atP _ _ _ 3 false = some (Op.indexAddr 27 (Operand.tmp 12) (Operand.tmp 13), 0, some 14, Rg.sq [true, false, true, true, true, true, true, false, true, true, false] 4)) (sz := 2) (by kernel_rfl) rfl rfl rfl hlt (fun L w1 hs => rd_some (rdRow_ext (hs.old 0 rfl) h) hlt) ?_
    intro a_2 ha_; cases ha_
    refine go mixed 2000 [0, 1, 5, 7, 8, 11, 14] 0 (St.mk (Rg.sq [true, false, true, true, true, true, true, false, true, true, false] 4) [KI.code [true, false, true, true, true, true, true, false, true, true, true], KI.block 1, KI.code [true, false, true, true, true, true, true, true], KI.loop [true, false, true, true, true], KI.block 0, KI.code [true, true]] [(0, SV.one (SC.v (Value.slice (some a_2) xs.length c))), (1, SV.one (SC.v (Value.func (Fn.func F) #[] #[cv]))), (5, SV.one (SC.v (Value.int IntKind.i64 (↑i : Int)))), (7, SV.one (SC.v (Value.int IntKind.i64 (↑xs.length : Int)))), (8, SV.one (SC.v (Value.int IntKind.i64 (↑i : Int)))), (11, SV.one (SC.v (Value.func (Fn.func F) #[] #[cv]))), (14, SV.one (SC.v (Value.pointer (some (a_2.add (i * 2))))))] []) (by kernel_rfl) (by kernel_rfl) (by kernel_rfl) ?_
    obtain ⟨Ai, ci, hcell1, hcell2, hrow⟩ := rd_w h hlt
    refine load_agg 4 (by kernel_rfl : atP _ _ _ 4 true = some (Op.load 59 (Operand.tmp 14), 59, some 15, Rg.sq [true, false, true, true, true, true, true, false, true, true, false] 5)) (n := 2) (by kernel_rfl) rfl ?_
    intro L w1 hs
    refine ⟨[.v (.int .i64 (xs[i]).1), .v (.slice Ai (xs[i]).2.length ci)], rfl, fun j c hj => ?_, ?_⟩
    · match j, hj with
      | 0, hj => cases hj; exact cellH_ext (hs.old 0 rfl) hcell1
      | 1, hj => cases hj; exact cellH_ext (hs.old 0 rfl) hcell2
    clear hs
    refine go mixed 2000 [0, 1, 5, 7, 8, 11, 15] 0 (St.mk (Rg.sq [true, false, true, true, true, true, true, false, true, true, false] 5) [KI.code [true, false, true, true, true, true, true, false, true, true, true], KI.block 1, KI.code [true, false, true, true, true, true, true, true], KI.loop [true, false, true, true, true], KI.block 0, KI.code [true, true]] [(0, SV.one (SC.v (Value.slice (some a_2) xs.length c))), (1, SV.one (SC.v (Value.func (Fn.func F) #[] #[cv]))), (5, SV.one (SC.v (Value.int IntKind.i64 (↑i : Int)))), (7, SV.one (SC.v (Value.int IntKind.i64 (↑xs.length : Int)))), (8, SV.one (SC.v (Value.int IntKind.i64 (↑i : Int)))), (11, SV.one (SC.v (Value.func (Fn.func F) #[] #[cv]))), (15, SV.agg [SC.v (Value.int IntKind.i64 xs[i].fst), SC.v (Value.slice Ai xs[i].snd.length ci)])] []) (by kernel_rfl) (by kernel_rfl) (by kernel_rfl) ?_
    refine call_pure true (by kernel_rfl : atC _ _ _ true = some (F, [SV.agg [SC.v (Value.int IntKind.i64 xs[i].fst), SC.v (Value.slice Ai xs[i].snd.length ci)], SV.one (SC.v cv)], some 16, Rg.sq [true, false, true, true, true, true, true, false, true, true, false] 6)) hF (.one (.bo (p xs[i]))) (fun L w1 hs => hp w1 (hs.old 0 rfl) _ (List.getElem_mem hlt) _ ⟨Ai, ci, rfl, rdRow_ext (hs.old 0 rfl) hrow⟩) ?_
    refine go mixed 2000 [0, 1, 5, 7, 8, 16] 0 (St.mk Rg.no [KI.code [true, false, true, true, true, true, true, false, true, true, true], KI.block 1, KI.code [true, false, true, true, true, true, true, true], KI.loop [true, false, true, true, true], KI.block 0, KI.code [true, true]] [(0, SV.one (SC.v (Value.slice (some a_2) xs.length c))), (1, SV.one (SC.v (Value.func (Fn.func F) #[] #[cv]))), (5, SV.one (SC.v (Value.int IntKind.i64 (↑i : Int)))), (7, SV.one (SC.v (Value.int IntKind.i64 (↑xs.length : Int)))), (8, SV.one (SC.v (Value.int IntKind.i64 (↑i : Int)))), (16, SV.one (SC.bo (p xs[i])))] []) (by kernel_rfl) (by kernel_rfl) (by kernel_rfl) ?_
    refine split_at 16 (b := p xs[i]) (by kernel_rfl) (by kernel_rfl) ?_ ?_
    · intro h2
      refine go mixed 2000 [4] 0 (St.mk Rg.no [KI.code [true, false, true, true, true, true, true, false, true, true, true, false, true], KI.block 1, KI.code [true, false, true, true, true, true, true, true], KI.loop [true, false, true, true, true], KI.block 0, KI.code [true, true]] [(4, SV.one (SC.v (Value.int IntKind.i64 (↑i : Int))))] []) (by kernel_rfl) (by kernel_rfl) (by kernel_rfl) ?_
      refine ret_ok (vs := [SV.one (SC.v (Value.int IntKind.i64 (↑i : Int)))]) (by kernel_rfl) ?_
      intro L w1 hs
      exact ⟨by rw [idx_hit hlt hi.2 h2]; rfl, hs.out0⟩
    intro h2
    refine go mixed 2000 [0, 1, 7, 8] 0 (St.mk Rg.no [KI.loop [true, false, true, true, true], KI.block 0, KI.code [true, true]] [(0, SV.one (SC.v (Value.slice (some a_2) xs.length c))), (1, SV.one (SC.v (Value.func (Fn.func F) #[] #[cv]))), (7, SV.one (SC.v (Value.int IntKind.i64 (↑xs.length : Int)))), (8, SV.one (SC.v (Value.int IntKind.i64 (IntKind.i64.wrap ((↑i : Int) + 1)))))] []) (by kernel_rfl) (by kernel_rfl) (by kernel_rfl) ?_
    rw [wrap_succ (by omega)]
    refine ih (i + 1) ⟨hlt, fun x hx => ?_⟩ (by omega)
    rw [List.take_succ_eq_append_getElem hlt] at hx
    rcases List.mem_append.1 hx with hx | hx
    · exact hi.2 x hx
    · rw [List.mem_singleton.1 hx]; exact h2
  · intro h1
    refine go mixed 2000 [4] 0 (St.mk Rg.no [KI.code [true, true, true]] [(4, SV.one (SC.v (Value.int IntKind.i64 (-1))))] []) (by kernel_rfl) (by kernel_rfl) (by kernel_rfl) ?_
    refine ret_ok (vs := [SV.one (SC.v (Value.int IntKind.i64 (-1)))]) (by kernel_rfl) ?_
    intro L w1 hs
    have hi2 : i = xs.length := by
      have : ¬ i < xs.length := by simpa using h1
      have := hi.1
      omega
    subst hi2
    exact ⟨by rw [idx_none (fun x hx => hi.2 x (by rw [List.take_length]; exact hx))]; rfl, hs.out0⟩
end Go.Proofs.Ytjbbakckckihnaa.Dk
