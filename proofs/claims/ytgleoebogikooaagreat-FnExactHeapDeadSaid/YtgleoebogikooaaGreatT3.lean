/- Walks of functions of the program: what each call returns and what it leaves in memory. Conditions: those that each theorem names. -/
import Derived.Test.YtgleoebogikooaaGreatT1
import Derived.Test.YtgleoebogikooaaGreatSxC
namespace Go.Proofs.YtgleoebogikooaaGreat.Dk
set_option linter.unusedVariables false
set_option linter.unusedSimpArgs false
open Go.Proofs.YtgleoebogikooaaGreat.Sx Go.Proofs Go.RowKit
set_option maxRecDepth 100000
set_option maxHeartbeats 1000000
structure RC where
 x : Rw
 b1 : Nat
 A1 : Option Addr
 c1 : Nat
 b2 : Nat
 A2 : Option Addr
 c2 : Nat
def RC.cs (c : RC) : List Value := [.int .i64 c.x.page, .int .i64 c.x.slot, .int .i64 c.x.tuple.xmin, .int .i64 c.x.tuple.xmax, .int .i64 c.x.tuple.key.kind, .int .i64 c.x.tuple.key.n, .float .f64 c.b1, .slice c.A1 c.x.tuple.key.t.length c.c1, .int .i64 c.x.tuple.value.kind, .int .i64 c.x.tuple.value.n, .float .f64 c.b2, .slice c.A2 c.x.tuple.value.t.length c.c2]
def RC.scs (c : RC) : List SC := [.v (.int .i64 c.x.page), .v (.int .i64 c.x.slot), .v (.int .i64 c.x.tuple.xmin), .v (.int .i64 c.x.tuple.xmax), .v (.int .i64 c.x.tuple.key.kind), .v (.int .i64 c.x.tuple.key.n), .v (.float .f64 c.b1), .v (.slice c.A1 c.x.tuple.key.t.length c.c1), .v (.int .i64 c.x.tuple.value.kind), .v (.int .i64 c.x.tuple.value.n), .v (.float .f64 c.b2), .v (.slice c.A2 c.x.tuple.value.t.length c.c2)]
theorem RC.len (x : RC) : x.cs.length = 12 := rfl
theorem RC.one (x : RC) : ∀ u ∈ x.cs, u.oneCell' = true := fun u hu => by
 simp only [RC.cs, List.mem_cons, List.not_mem_nil, or_false] at hu
 rcases hu with rfl | rfl | rfl | rfl | rfl | rfl | rfl | rfl | rfl | rfl | rfl | rfl <;> rfl
def kRC : Kn RC := kPureK RC.cs 12 RC.len RC.one
theorem kRw_rc (h : Hp) (S : Nat → Prop) (x : Rw) (cs : List Value) (ho : kRw.ow h S x cs) : ∃ c, RC.x c = x ∧ cs = RC.cs c := by
 obtain ⟨b1, A1, c1, b2, A2, c2, rfl, _⟩ := kRw_inv (kRw.read ho)
 exact ⟨⟨x, b1, A1, c1, b2, A2, c2⟩, rfl, rfl⟩
theorem rc_at {h : Hp} {ys : List RC} {a : Addr} {n c i : Nat} {x : RC} (hr : rdRow kRC h ys (.slice (some a) n c)) (hx : ys[i]? = some x) : ∀ j u, (RC.cs x)[j]? = some u → cellH h ((a.add (i * 12)).add j) = some u := by
 obtain ⟨cs, h1, h2⟩ := rd_at hr hx
 have h1 : cs = RC.cs x := h1
 subst h1
 exact h2
theorem take_snoc {α : Type} {q : α → Bool} {cn ys : List α} {i j : Nat} (hij : i < j) (hj : j < ys.length) (hl : cn.length = ys.length) (h1 : cn.take i = (ys.take j).filter q) (hq : q ys[j] = true) : (cn.set i ys[j]).take (i + 1) = (ys.take (j + 1)).filter q := by
 rw [List.take_succ_eq_append_getElem (by rw [List.length_set]; omega), List.getElem_set_self, List.take_set_of_le (Nat.le_refl _), h1, List.take_succ_eq_append_getElem hj, List.filter_append]
 simp [hq]
theorem take_skip {α : Type} {q : α → Bool} {ys : List α} {j : Nat} (hj : j < ys.length) (hq : q ys[j] = false) : (ys.take (j + 1)).filter q = (ys.take j).filter q := by
 rw [List.take_succ_eq_append_getElem hj, List.filter_append]
 simp [hq]
theorem drop_next {α : Type} {cn ys : List α} {j : Nat} (h : cn.drop j = ys.drop j) : cn.drop (j + 1) = ys.drop (j + 1) := by
 have := congrArg (List.drop 1) h
 simpa [List.drop_drop, Nat.add_comm] using this
theorem drop_get {α : Type} {cn ys : List α} {j : Nat} (h : cn.drop j = ys.drop j) (hj : j < ys.length) : cn[j]? = some ys[j] := by
 have h1 := congrArg (fun l => l[0]?) h
 simpa [List.getElem?_drop, List.getElem?_eq_getElem hj] using h1
def DelOk (c1 : Value) (p : RC → Bool) (x : RC) (w1 : World) : Prop := Calls Tryz.prog 59 #[.agg x.cs.toArray, c1] w1 fun e w2 => e = .returned (.bool (p x)) ∧ Below w1.heap.size w1 w2
theorem idxRw_ok (c1 : Value) (p : RC → Bool) (ys : List RC) (A : Option Addr) (c : Nat) (w : World) (hr : rdRow kRC w.heap ys (.slice A ys.length c)) (hd : ∀ x ∈ ys, ∀ w1 : World, (∀ b, b < w.heap.size → w1.heap[b]? = w.heap[b]?) → DelOk c1 p x w1) (hl : ys.length ≤ 1048576) :
  Calls Tryz.prog 91 #[.slice A ys.length c, .func (.func 59) #[] #[c1]] w fun e w' => ∃ r : Int, e = .returned (.int .i64 r) ∧ Below w.heap.size w w' ∧ ((r = -1 ∧ ∀ x ∈ ys, p x = false) ∨ ∃ i : Nat, r = (i : Int) ∧ ∃ hi : i < ys.length, p ys[i] = true ∧ ∀ x ∈ ys.take i, p x = false) := by
 refine enter (args := [.one (.v (.slice A ys.length c)), .one (.v (.func (.func 59) #[] #[c1]))]) Tryz.func91 (c := bodyOf Tryz.f91) rfl rfl (start_LOK _) (start_old w) ?_
 refine gn 0 Rg.no [kLp (bitL 5 29), KI.block 0, KI.code [true, true]] [(0, vS A ys.length c), (1, SV.one (SC.v (Value.func (Fn.func 59) #[] #[c1]))), (7, vI (↑ys.length : Int)), (8, vI 0)] [] ?_
 refine loop_at (ι := Nat) (fun i => [(8, .one (.v (.int .i64 i)))]) (fun _ => []) (fun i => [oldA w]) (fun i => i ≤ ys.length ∧ ∀ x ∈ ys.take i, p x = false) (fun i => ys.length - i) 0 rfl rfl rfl ⟨Nat.zero_le _, fun x hx => by simp at hx⟩ ?_
 rintro i ⟨hi, hall⟩ ih
 rcases Nat.lt_or_ge i ys.length with hlt | hge
 ·refine gn 0 Rg.no [kCd (bitL 7 61), kCd (bitL 7 125), kLp (bitL 5 29), KI.block 0, KI.code [true, true]] [(0, vS A ys.length c), (1, SV.one (SC.v (Value.func (Fn.func 59) #[] #[c1]))), (7, vI (↑ys.length : Int)), (8, vI (↑i : Int)), (9, vB (decide ((↑i : Int) < (↑ys.length : Int))))] [] ?_
  refine spl 9 (decide ((↑i : Int) < (↑ys.length : Int))) ?_ ?_
  rotate_left
  ·intro hb1
   replace hb1 := of_decide_eq_false hb1
   (exfalso; omega)
  intro hb1
  replace hb1 := of_decide_eq_true hb1
  refine gn 0 (Rg.sq (bitL 11 893) 3) [kCd (bitL 11 1917), KI.block 1, kCd (bitL 8 253), kLp (bitL 5 29), KI.block 0, KI.code [true, true]] [(0, vS A ys.length c), (1, SV.one (SC.v (Value.func (Fn.func 59) #[] #[c1]))), (5, vI (↑i : Int)), (7, vI (↑ys.length : Int)), (8, vI (↑i : Int)), (11, SV.one (SC.v (Value.func (Fn.func 59) #[] #[c1]))), (12, vS A ys.length c), (13, vI (↑i : Int))] [] ?_
  refine index_at 3 (by kernel_rfl : atP _ _ _ 3 false = some (Op.indexAddr 26 (tmpO 12) (tmpO 13), 0, some 14, Rg.sq (bitL 11 893) 4)) (ni := i) (sz := 12) (by kernel_rfl) rfl rfl rfl ‹_› (fun L w1 hs => rd_some (i := i) (rdRow_ext (hs.old 0 rfl) hr) ‹_›) ?_
  intro a_1 ha_1
  cases ha_1
  refine gn 0 (Rg.sq (bitL 11 893) 4) [kCd (bitL 11 1917), KI.block 1, kCd (bitL 8 253), kLp (bitL 5 29), KI.block 0, KI.code [true, true]] [(0, vS (some a_1) ys.length c), (1, SV.one (SC.v (Value.func (Fn.func 59) #[] #[c1]))), (5, vI (↑i : Int)), (7, vI (↑ys.length : Int)), (8, vI (↑i : Int)), (11, SV.one (SC.v (Value.func (Fn.func 59) #[] #[c1]))), (14, vP (a_1.add (i * 12)))] [] ?_
  refine load_agg 4 (by kernel_rfl : atP _ _ _ 4 true = some (Op.load 64 (tmpO 14), 64, some 15, Rg.sq (bitL 11 893) 5)) (n := 12) (by kernel_rfl) rfl ?_
  intro L w1 hs
  refine ⟨RC.scs ys[i], rfl, cells_at0 (scs := RC.scs ys[i]) (rc_at (rdRow_ext (hs.old 0 rfl) hr) (List.getElem?_eq_getElem hlt)) rfl, ?_⟩
  clear hs
  unfold RC.scs
  refine gn 0 (Rg.sq (bitL 11 893) 5) [kCd (bitL 11 1917), KI.block 1, kCd (bitL 8 253), kLp (bitL 5 29), KI.block 0, KI.code [true, true]] [(0, vS (some a_1) ys.length c), (1, SV.one (SC.v (Value.func (Fn.func 59) #[] #[c1]))), (5, vI (↑i : Int)), (7, vI (↑ys.length : Int)), (8, vI (↑i : Int)), (11, SV.one (SC.v (Value.func (Fn.func 59) #[] #[c1]))), (15, SV.agg [cI ys[i].x.page, cI ys[i].x.slot, cI ys[i].x.tuple.xmin, cI ys[i].x.tuple.xmax, cI ys[i].x.tuple.key.kind, cI ys[i].x.tuple.key.n, cF ys[i].b1, cS ys[i].3 ys[i].x.tuple.key.t.length ys[i].c1, cI ys[i].x.tuple.value.kind, cI ys[i].x.tuple.value.n, cF ys[i].b2, cS ys[i].6 ys[i].x.tuple.value.t.length ys[i].c2])] [] ?_
  refine cak 59 [SV.agg [cI ys[i].x.page, cI ys[i].x.slot, cI ys[i].x.tuple.xmin, cI ys[i].x.tuple.xmax, cI ys[i].x.tuple.key.kind, cI ys[i].x.tuple.key.n, cF ys[i].b1, cS ys[i].3 ys[i].x.tuple.key.t.length ys[i].c1, cI ys[i].x.tuple.value.kind, cI ys[i].x.tuple.value.n, cF ys[i].b2, cS ys[i].6 ys[i].x.tuple.value.t.length ys[i].c2], SV.one (SC.v c1)] (some 16) (Rg.sq (bitL 11 893) 6) (fun L w1 hs => (hd ys[i] (List.getElem_mem hlt) w1 (hs.old 0 rfl)).mono ?_)
  rintro e w2 ⟨rfl, hb⟩
  refine ⟨.one (.bo (p ys[i])), _, _, rfl, fun _ => hb.block, hs.below hb, ?_⟩
  clear hs hb
  refine gn 0 Rg.no [kCd (bitL 11 1917), KI.block 1, kCd (bitL 8 253), kLp (bitL 5 29), KI.block 0, KI.code [true, true]] [(0, vS (some a_1) ys.length c), (1, SV.one (SC.v (Value.func (Fn.func 59) #[] #[c1]))), (5, vI (↑i : Int)), (7, vI (↑ys.length : Int)), (8, vI (↑i : Int)), (16, vB (p ys[i]))] [] ?_
  refine spl 16 (p ys[i]) ?_ ?_
  ·intro hb
   refine gn 0 Rg.no [kCd (bitL 13 6013), KI.block 1, kCd (bitL 8 253), kLp (bitL 5 29), KI.block 0, KI.code [true, true]] [(4, vI (↑i : Int))] [] ?_
   refine rtk [vI (↑i : Int)] ?_
   intro L w1 hs
   exact ⟨_, rfl, hs.out0, .inr ⟨i, rfl, hlt, hb, hall⟩⟩
  intro hb
  refine gn 0 Rg.no [kLp (bitL 5 29), KI.block 0, KI.code [true, true]] [(0, vS (some a_1) ys.length c), (1, SV.one (SC.v (Value.func (Fn.func 59) #[] #[c1]))), (7, vI (↑ys.length : Int)), (8, vI (IntKind.i64.wrap ((↑i : Int) + 1)))] [] ?_
  rw [wrap_succ (by omega)]
  exact ih (i + 1) ⟨hlt, fun x hx => by
   rw [List.take_succ_eq_append_getElem hlt] at hx
   rcases List.mem_append.1 hx with hx | hx
   ·exact hall x hx
   ·rw [List.mem_singleton.1 hx]; exact hb⟩ (by omega)
 ·obtain rfl : i = ys.length := by omega
  rw [List.take_length] at hall
  refine gn 0 Rg.no [kCd (bitL 7 61), kCd (bitL 7 125), kLp (bitL 5 29), KI.block 0, KI.code [true, true]] [(0, vS A ys.length c), (1, SV.one (SC.v (Value.func (Fn.func 59) #[] #[c1]))), (7, vI (↑ys.length : Int)), (8, vI (↑ys.length : Int)), (9, vB (decide ((↑ys.length : Int) < (↑ys.length : Int))))] [] ?_
  refine spl 9 (decide ((↑ys.length : Int) < (↑ys.length : Int))) ?_ ?_
  ·intro hb1
   replace hb1 := of_decide_eq_true hb1
   (exfalso; omega)
  ·intro hb1
   replace hb1 := of_decide_eq_false hb1
   refine gn 0 Rg.no [kCd (bitL 3 7)] [(4, vI (-1))] [] ?_
   refine rtk [vI (-1)] ?_
   intro L w1 hs
   exact ⟨_, rfl, hs.out0, .inl ⟨rfl, hall⟩⟩
theorem delRw_ok (c1 : Value) (p : RC → Bool) (ys : List RC) (A : Option Addr) (c : Nat) (w : World) (S : Nat → Prop) (h : sepL [rowA 64 kRC ys (.slice A ys.length c)] w.heap S) (hS : ∀ b, S b → b < w.heap.size)
   (hd : ∀ x ∈ ys, ∀ w1 : World, (∀ b, b < w.heap.size → ¬ S b → w1.heap[b]? = w.heap[b]?) → w.heap.size ≤ w1.heap.size → DelOk c1 p x w1) (hl : ys.length ≤ 1048576) :
  Calls Tryz.prog 57 #[.slice A ys.length c, .func (.func 59) #[] #[c1]] w fun e w' => ∃ (B : Option Addr) (d : Nat), e = .returned (.slice B (ys.filter fun x => !p x).length d) ∧ Mut w w' S [rowA 64 kRC (ys.filter fun x => !p x) (.slice B (ys.filter fun x => !p x).length d)] := by
 have hown := rowA_holds.1 (sepL_one h)
 have hcap : ys.length ≤ c := by
  obtain ⟨_, c', hv, hle, _⟩ := hown
  cases hv
  exact hle
 refine enter (args := [.one (.v (.slice A ys.length c)), .one (.v (.func (.func 59) #[] #[c1]))]) Tryz.func57 (c := bodyOf Tryz.f57) rfl rfl (start_LOK _) (start_mut h hS) ?_
 refine gn 0 (Rg.sq [true, false] 2) [KI.code [true, true]] [(0, vS A ys.length c), (1, SV.one (SC.v (Value.func (Fn.func 59) #[] #[c1]))), (8, vS A ys.length c), (9, SV.one (SC.v (Value.func (Fn.func 59) #[] #[c1])))] [] ?_
 refine cak 91 [vS A ys.length c, SV.one (SC.v (Value.func (Fn.func 59) #[] #[c1]))] (some 10) (Rg.sq [true, false] 3) (fun L w1 hs => (idxRw_ok c1 p ys A c w1 (hs.rd 0 rfl) (fun x hx w2 hag => hd x hx w2 (fun b hb hn => (hag b (Nat.lt_of_lt_of_le hb hs.1.1.size)).trans (hs.oldx 1 rfl b hb hn)) (by
  have h1 : w.heap.size ≤ w1.heap.size := hs.1.1.size
  rcases Nat.lt_or_ge w2.heap.size w.heap.size with hlt | hge
  ·exfalso
   have h2 := hag w2.heap.size (by omega)
   rw [Array.getElem?_eq_none (Nat.le_refl _), Array.getElem?_eq_getElem (by omega)] at h2
   cases h2
  ·exact hge)) hl).mono ?_)
 rintro e w2 ⟨r, rfl, hb, hr⟩
 refine ⟨.one (.v (.int .i64 r)), _, _, rfl, fun _ => hb.block, hs.below hb, ?_⟩
 clear hs hb
 rcases hr with ⟨rfl, hall⟩ | ⟨i0, rfl, hi0, hp0, hall⟩
 ·have hf : ys.filter (fun x => !p x) = ys := List.filter_eq_self.2 fun x hx => by simp [hall x hx]
  rw [hf]
  refine gn 0 Rg.no [kCd (bitL 4 11), kCd (bitL 3 7)] [(0, vS A ys.length c), (1, SV.one (SC.v (Value.func (Fn.func 59) #[] #[c1]))), (5, vI (-1)), (12, vB true)] [] ?_
  refine ltk 12 true ?_
  refine gn 0 Rg.no [kCd (bitL 6 43), kCd (bitL 3 7)] [(4, vS A ys.length c)] [] ?_
  refine rtk [vS A ys.length c] ?_
  intro L w1 hs
  exact ⟨_, _, rfl, SOK.outm (As := [_]) hs⟩
 have hf0 : (ys.take i0).filter (fun x => !p x) = ys.take i0 := List.filter_eq_self.2 fun x hx => by simp [hall x hx]
 obtain ⟨g, rfl⟩ := own_g hown (by omega)
 have nf_1 : IntKind.i64.wrap ((i0 : Int) + 1) = ((i0 + 1 : Nat) : Int) := by rw [IntKind.wrap_i64]; omega
 refine gn 0 Rg.no [kCd (bitL 4 11), kCd (bitL 3 7)] [(0, vS (some (Addr.mk g 0 none)) ys.length c), (1, SV.one (SC.v (Value.func (Fn.func 59) #[] #[c1]))), (5, vI (↑i0 : Int)), (12, vB ((↑i0 : Int) == -1))] [] ?_
 refine spl 12 ((↑i0 : Int) == -1) ?_ ?_
 ·intro hb1
  replace hb1 := beq_iff_eq.1 hb1
  (exfalso; omega)
 intro hb1
 replace hb1 := beq_eq_false_iff_ne.1 hb1
 refine gn 0 Rg.no [kLp (bitL 7 119), KI.block 0, kCd (bitL 4 15)] [(0, vS (some (Addr.mk g 0 none)) ys.length c), (1, SV.one (SC.v (Value.func (Fn.func 59) #[] #[c1]))), (5, vI (↑i0 : Int)), (6, vI (IntKind.i64.wrap ((↑i0 : Int) + 1)))] [] ?_
 try simp only [flx, nf_1]
 refine loop_at (ι := Nat × Nat × List RC) (fun s => [(5, .one (.v (.int .i64 s.1))), (6, .one (.v (.int .i64 s.2.1)))]) (fun _ => []) (fun s => [rowA 64 kRC s.2.2 (.slice (some ⟨g, 0, none⟩) ys.length c), oldX w S]) (fun s => (s.1 < s.2.1 ∧ s.2.1 ≤ ys.length) ∧ s.2.2.length = ys.length ∧ s.2.2.take s.1 = (ys.take s.2.1).filter (fun x => !p x) ∧ s.2.2.drop s.2.1 = ys.drop s.2.1) (fun s => ys.length - s.2.1) (i0, i0 + 1, ys) rfl rfl rfl ⟨⟨Nat.lt_succ_self _, hi0⟩, rfl, by rw [take_skip (q := fun x => !p x) hi0 (by simp [hp0]), hf0], rfl⟩ ?_
 rintro ⟨i, j, cn⟩ ⟨⟨hij, hj⟩, hln, htk, hdr⟩ ih
 simp only at hij hj hln htk hdr ih ⊢
 rcases Nat.lt_or_ge j ys.length with hlt | hge
 ·have hget := drop_get hdr hlt
  refine gn 0 Rg.no [kCd (bitL 9 375), kCd (bitL 8 247), kLp (bitL 7 119), KI.block 0, kCd (bitL 4 15)] [(0, vS (some (Addr.mk g 0 none)) ys.length c), (1, SV.one (SC.v (Value.func (Fn.func 59) #[] #[c1]))), (5, vI (↑i : Int)), (6, vI (↑j : Int)), (19, vB (decide ((↑j : Int) < (↑ys.length : Int))))] [] ?_
  refine spl 19 (decide ((↑j : Int) < (↑ys.length : Int))) ?_ ?_
  rotate_left
  ·intro hb2
   replace hb2 := of_decide_eq_false hb2
   (exfalso; omega)
  intro hb2
  replace hb2 := of_decide_eq_true hb2
  refine gn 0 (Rg.sq (bitL 11 759) 2) [kCd (bitL 11 1783), KI.block 1, kCd (bitL 9 503), kLp (bitL 7 119), KI.block 0, kCd (bitL 4 15)] [(0, vS (some (Addr.mk g 0 none)) ys.length c), (1, SV.one (SC.v (Value.func (Fn.func 59) #[] #[c1]))), (5, vI (↑i : Int)), (6, vI (↑j : Int)), (22, vS (some (Addr.mk g 0 none)) ys.length c), (23, vI (↑j : Int))] [] ?_
  refine index_at 2 (by kernel_rfl : atP _ _ _ 2 false = some (Op.indexAddr 26 (tmpO 22) (tmpO 23), 0, some 24, Rg.sq (bitL 11 759) 3)) (ni := j) (sz := 12) (by kernel_rfl) rfl rfl rfl ‹_› (fun L w1 hs => rd_some (i := j) (hs.rd 0 rfl) ‹_›) ?_
  intro a_1 ha_1
  cases ha_1
  refine gn 0 (Rg.sq (bitL 11 759) 3) [kCd (bitL 11 1783), KI.block 1, kCd (bitL 9 503), kLp (bitL 7 119), KI.block 0, kCd (bitL 4 15)] [(0, vS (some (Addr.mk g 0 none)) ys.length c), (1, SV.one (SC.v (Value.func (Fn.func 59) #[] #[c1]))), (5, vI (↑i : Int)), (6, vI (↑j : Int)), (24, vP ((Addr.mk g 0 none).add (j * 12)))] [] ?_
  refine load_agg 3 (by kernel_rfl : atP _ _ _ 3 true = some (Op.load 64 (tmpO 24), 64, some 25, Rg.sq (bitL 11 759) 4)) (n := 12) (by kernel_rfl) rfl ?_
  intro L w1 hs
  refine ⟨RC.scs ys[j], rfl, cells_at0 (scs := RC.scs ys[j]) (rc_at (hs.rd 0 rfl) hget) rfl, ?_⟩
  clear hs
  unfold RC.scs
  refine gn 1 (Rg.sq (bitL 12 1783) 2) [kCd (bitL 12 3831), KI.block 1, kCd (bitL 9 503), kLp (bitL 7 119), KI.block 0, kCd (bitL 4 15)] [(0, vS (some (Addr.mk g 0 none)) ys.length c), (1, SV.one (SC.v (Value.func (Fn.func 59) #[] #[c1]))), (5, vI (↑i : Int)), (6, vI (↑j : Int)), (7, vR 0 0), (26, SV.one (SC.v (Value.func (Fn.func 59) #[] #[c1]))), (27, SV.agg [cI ys[j].x.page, cI ys[j].x.slot, cI ys[j].x.tuple.xmin, cI ys[j].x.tuple.xmax, cI ys[j].x.tuple.key.kind, cI ys[j].x.tuple.key.n, cF ys[j].b1, cS ys[j].3 ys[j].x.tuple.key.t.length ys[j].c1, cI ys[j].x.tuple.value.kind, cI ys[j].x.tuple.value.n, cF ys[j].b2, cS ys[j].6 ys[j].x.tuple.value.t.length ys[j].c2])] [LB.mk [cI ys[j].x.page, cI ys[j].x.slot, cI ys[j].x.tuple.xmin, cI ys[j].x.tuple.xmax, cI ys[j].x.tuple.key.kind, cI ys[j].x.tuple.key.n, cF ys[j].b1, cS ys[j].3 ys[j].x.tuple.key.t.length ys[j].c1, cI ys[j].x.tuple.value.kind, cI ys[j].x.tuple.value.n, cF ys[j].b2, cS ys[j].6 ys[j].x.tuple.value.t.length ys[j].c2] 64] ?_
  refine cak 59 [SV.agg [cI ys[j].x.page, cI ys[j].x.slot, cI ys[j].x.tuple.xmin, cI ys[j].x.tuple.xmax, cI ys[j].x.tuple.key.kind, cI ys[j].x.tuple.key.n, cF ys[j].b1, cS ys[j].3 ys[j].x.tuple.key.t.length ys[j].c1, cI ys[j].x.tuple.value.kind, cI ys[j].x.tuple.value.n, cF ys[j].b2, cS ys[j].6 ys[j].x.tuple.value.t.length ys[j].c2], SV.one (SC.v c1)] (some 28) (Rg.sq (bitL 12 1783) 3) (fun L w1 hs => (hd ys[j] (List.getElem_mem hlt) w1 (hs.oldx 1 rfl) hs.1.1.size).mono ?_)
  rintro e w2 ⟨rfl, hb⟩
  refine ⟨.one (.bo (p ys[j])), _, _, rfl, fun _ => hb.block, hs.below hb, ?_⟩
  clear hs hb
  refine gn 1 Rg.no [kCd (bitL 12 3831), KI.block 1, kCd (bitL 9 503), kLp (bitL 7 119), KI.block 0, kCd (bitL 4 15)] [(0, vS (some (Addr.mk g 0 none)) ys.length c), (1, SV.one (SC.v (Value.func (Fn.func 59) #[] #[c1]))), (5, vI (↑i : Int)), (6, vI (↑j : Int)), (7, vR 0 0), (29, vB !p ys[j])] [LB.mk [cI ys[j].x.page, cI ys[j].x.slot, cI ys[j].x.tuple.xmin, cI ys[j].x.tuple.xmax, cI ys[j].x.tuple.key.kind, cI ys[j].x.tuple.key.n, cF ys[j].b1, cS ys[j].3 ys[j].x.tuple.key.t.length ys[j].c1, cI ys[j].x.tuple.value.kind, cI ys[j].x.tuple.value.n, cF ys[j].b2, cS ys[j].6 ys[j].x.tuple.value.t.length ys[j].c2] 64] ?_
  refine spl 29 (!p ys[j]) ?_ ?_
  ·intro hb
   refine gn 0 (Rg.sq (bitL 14 3831) 3) [kCd (bitL 14 12023), KI.block 1, kCd (bitL 9 503), kLp (bitL 7 119), KI.block 0, kCd (bitL 4 15)] [(0, vS (some (Addr.mk g 0 none)) ys.length c), (1, SV.one (SC.v (Value.func (Fn.func 59) #[] #[c1]))), (5, vI (↑i : Int)), (6, vI (↑j : Int)), (30, vS (some (Addr.mk g 0 none)) ys.length c), (31, vI (↑i : Int)), (32, SV.agg [cI ys[j].x.page, cI ys[j].x.slot, cI ys[j].x.tuple.xmin, cI ys[j].x.tuple.xmax, cI ys[j].x.tuple.key.kind, cI ys[j].x.tuple.key.n, cF ys[j].b1, cS ys[j].3 ys[j].x.tuple.key.t.length ys[j].c1, cI ys[j].x.tuple.value.kind, cI ys[j].x.tuple.value.n, cF ys[j].b2, cS ys[j].6 ys[j].x.tuple.value.t.length ys[j].c2])] [] ?_
   refine index_at 3 (by kernel_rfl : atP _ _ _ 3 false = some (Op.indexAddr 26 (tmpO 30) (tmpO 31), 0, some 33, Rg.sq (bitL 14 3831) 4)) (ni := i) (sz := 12) (by kernel_rfl) rfl rfl rfl (by omega) (fun L w1 hs => ⟨_, rfl⟩) ?_
   intro a1 ha1; cases ha1
   refine gn 0 (Rg.sq (bitL 14 3831) 4) [kCd (bitL 14 12023), KI.block 1, kCd (bitL 9 503), kLp (bitL 7 119), KI.block 0, kCd (bitL 4 15)] [(0, vS (some (Addr.mk g 0 none)) ys.length c), (1, SV.one (SC.v (Value.func (Fn.func 59) #[] #[c1]))), (5, vI (↑i : Int)), (6, vI (↑j : Int)), (32, SV.agg [cI ys[j].x.page, cI ys[j].x.slot, cI ys[j].x.tuple.xmin, cI ys[j].x.tuple.xmax, cI ys[j].x.tuple.key.kind, cI ys[j].x.tuple.key.n, cF ys[j].b1, cS ys[j].3 ys[j].x.tuple.key.t.length ys[j].c1, cI ys[j].x.tuple.value.kind, cI ys[j].x.tuple.value.n, cF ys[j].b2, cS ys[j].6 ys[j].x.tuple.value.t.length ys[j].c2]), (33, vP ((Addr.mk g 0 none).add (i * 12)))] [] ?_
   refine store_el (A := []) (d := kRC) (i := i) (y := ys[j]) (by kernel_rfl : atB _ _ _ false = some (Op.store 64 (tmpO 33) (tmpO 32), 0, none, Rg.sq (bitL 14 3831) 5)) (by kernel_rfl) rfl rfl rfl rfl rfl (by omega) (fun _ _ _ => rfl) ?_
   refine gn 0 Rg.no [kLp (bitL 7 119), KI.block 0, kCd (bitL 4 15)] [(0, vS (some (Addr.mk g 0 none)) ys.length c), (1, SV.one (SC.v (Value.func (Fn.func 59) #[] #[c1]))), (5, vI (IntKind.i64.wrap ((↑i : Int) + 1))), (6, vI (IntKind.i64.wrap ((↑j : Int) + 1)))] [] ?_
   rw [wrap_succ (by omega), wrap_succ (by omega)]
   exact ih (i + 1, j + 1, cn.set i ys[j]) ⟨⟨by simp only; omega, hlt⟩, by simp [hln], take_snoc hij hlt hln htk hb, by simp only; rw [List.drop_set_of_lt (by omega)]; exact drop_next hdr⟩ (by simp only; omega)
  intro hb
  refine gn 0 Rg.no [kLp (bitL 7 119), KI.block 0, kCd (bitL 4 15)] [(0, vS (some (Addr.mk g 0 none)) ys.length c), (1, SV.one (SC.v (Value.func (Fn.func 59) #[] #[c1]))), (5, vI (↑i : Int)), (6, vI (IntKind.i64.wrap ((↑j : Int) + 1)))] [] ?_
  rw [wrap_succ (by omega)]
  exact ih (i, j + 1, cn) ⟨⟨by simp only; omega, hlt⟩, hln, by simp only; rw [take_skip (q := fun x => !p x) hlt hb, htk], drop_next hdr⟩ (by simp only; omega)
 ·obtain rfl : j = ys.length := by omega
  rw [List.take_length] at htk
  have hfl : (ys.filter fun x => !p x).length = i := by rw [← htk, List.length_take]; omega
  refine gn 0 Rg.no [kCd (bitL 9 375), kCd (bitL 8 247), kLp (bitL 7 119), KI.block 0, kCd (bitL 4 15)] [(0, vS (some (Addr.mk g 0 none)) ys.length c), (1, SV.one (SC.v (Value.func (Fn.func 59) #[] #[c1]))), (5, vI (↑i : Int)), (6, vI (↑ys.length : Int)), (19, vB (decide ((↑ys.length : Int) < (↑ys.length : Int))))] [] ?_
  refine spl 19 (decide ((↑ys.length : Int) < (↑ys.length : Int))) ?_ ?_
  ·intro hb2
   replace hb2 := of_decide_eq_true hb2
   (exfalso; omega)
  intro hb2
  replace hb2 := of_decide_eq_false hb2
  refine gn 0 (Rg.sq (bitL 5 15) 2) [kCd (bitL 5 31)] [(0, vS (some (Addr.mk g 0 none)) ys.length c), (5, vI (↑i : Int)), (36, vS (some (Addr.mk g 0 none)) ys.length c), (37, vI (↑i : Int))] [] ?_
  refine slice_at 2 (l := i) (h := ys.length) (m := c) (sz := 12) (by kernel_rfl : atP _ _ _ 2 false = some (Op.slice 26 (tmpO 36) (some (tmpO 37)) none none, 26, some 38, Rg.sq (bitL 5 15) 3)) (by kernel_rfl) rfl ⟨_, rfl⟩ rfl rfl (by decide) (by omega) hcap (Nat.le_refl _) ?_
  refine gn 0 (Rg.sq (bitL 5 15) 3) [kCd (bitL 5 31)] [(0, vS (some (Addr.mk g 0 none)) ys.length c), (5, vI (↑i : Int)), (38, vS (Decidable.rec (fun h => (fun x => Option.map (fun x => x.add (i * 12)) (some (Addr.mk g 0 none))) h) (fun h => (fun x => some (Addr.mk g 0 none)) h) (instDecidableEqNat c i)) (ys.length - i) (c - i))] [] ?_
  rw [← hln]
  refine clear_at (by_ := 128) (i := i) (ys := cn) (zc := [.int .i64 0, .int .i64 0, .int .i64 0, .int .i64 0, .int .i64 0, .int .i64 0, .float .f64 0, .slice none 0 0, .int .i64 0, .int .i64 0, .float .f64 0, .slice none 0 0]) (by kernel_rfl : atB _ _ _ false = some (Op.call (Call.mk (Callee.builtin Builtin.clear) #[tmpO 38] #[26]), 0, none, Rg.sq (bitL 5 15) 4)) (by kernel_rfl) (by kernel_rfl) (by decide) rfl (fun h9 => by cases instDecidableEqNat c i with | isFalse _ => rfl | isTrue h => omega) rfl (by omega) (by omega) ?_
  rw [hln]
  refine gn 0 (Rg.sq (bitL 6 31) 2) [kCd (bitL 6 63)] [(39, vS (some (Addr.mk g 0 none)) ys.length c), (40, vI (↑i : Int))] [] ?_
  refine slice_at 2 (l := 0) (h := i) (m := c) (sz := 12) (by kernel_rfl : atP _ _ _ 2 false = some (Op.slice 26 (tmpO 39) none (some (tmpO 40)) none, 26, some 41, Rg.sq (bitL 6 31) 3)) (by kernel_rfl) rfl rfl ⟨_, rfl⟩ rfl (by decide) (Nat.zero_le _) (by omega) (Nat.le_refl _) ?_
  refine gn 0 Rg.no [kCd (bitL 6 63)] [(4, vS (Decidable.rec (fun h => (fun x => Option.map (fun x => x.add (0 * 12)) (some (Addr.mk g 0 none))) h) (fun h => (fun x => some (Addr.mk g 0 none)) h) (instDecidableEqNat c 0)) (i - 0) (c - 0))] [] ?_
  refine rtk [vS (Decidable.rec (fun h => (fun x => Option.map (fun x => x.add (0 * 12)) (some (Addr.mk g 0 none))) h) (fun h => (fun x => some (Addr.mk g 0 none)) h) (instDecidableEqNat c 0)) (i - 0) (c - 0)] ?_
  intro L w1 hs
  rw [htk] at hs
  refine ⟨some ⟨g, 0, none⟩, c, ?_, ?_⟩
  ·rw [hfl]
   cases instDecidableEqNat c 0 with
   | isFalse _ => rfl
   | isTrue h => omega
  ·rw [hfl]
   exact SOK.outm (As := [_]) hs
end Go.Proofs.YtgleoebogikooaaGreat.Dk
