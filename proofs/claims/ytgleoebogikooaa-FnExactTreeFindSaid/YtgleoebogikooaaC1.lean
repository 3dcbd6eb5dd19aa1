/- Walks of functions of the program: what each call returns and what it leaves in memory. Conditions: those that each theorem names. -/
import Derived.Test.YtgleoebogikooaaB2
namespace Go.Proofs.Ytgleoebogikooaa.Dk
set_option linter.unusedVariables false
set_option linter.unusedSimpArgs false
open Go.Proofs.Ytgleoebogikooaa.Sx Go.Proofs Go.RowKit
set_option maxRecDepth 100000
set_option maxHeartbeats 1000000
def zRow {α : Type} (z : α → Nat) (xs : List α) : Nat := xs.length + (xs.map z).sum
def sumT {α : Type} (z : α → Nat) (xs : List α) (i : Nat) : Nat := ((xs.take i).map z).sum
theorem sumT_succ {α : Type} (z : α → Nat) (xs : List α) (i : Nat) (h : i < xs.length) : sumT z xs (i + 1) = sumT z xs i + z xs[i] := by
  unfold sumT
  rw [List.take_succ_eq_append_getElem h, List.map_append, List.sum_append]
  simp
theorem sumT_le {α : Type} (z : α → Nat) (xs : List α) : ∀ i, sumT z xs i ≤ (xs.map z).sum := by
  induction xs with
  | nil => intro i; simp [sumT]
  | cons a r ih =>
    intro i
    cases i with
    | zero => simp [sumT]
    | succ i => have := ih i; simp only [sumT, List.take_succ_cons, List.map_cons, List.sum_cons] at *; omega
theorem sumT_all {α : Type} (z : α → Nat) (xs : List α) (i : Nat) (h : xs.length ≤ i) : sumT z xs i = (xs.map z).sum := by
  unfold sumT; rw [List.take_of_length_le h]
theorem z_le {α : Type} (z : α → Nat) (xs : List α) {x : α} (h : x ∈ xs) : z x ≤ (xs.map z).sum := by
  induction xs with
  | nil => simp at h
  | cons a r ih =>
    simp only [List.map_cons, List.sum_cons]
    rcases List.mem_cons.1 h with h | h
    · subst h; omega
    · have := ih h; omega
def zIt (x : It) : Nat := x.t.length
def wIt (x : It) : Prop := (x.t.length ≤ 9223372036854775807)
def zEn (x : En) : Nat := zIt x.key
def wEn (x : En) : Prop := (wIt x.key)
def zNd (x : Nd) : Nat := zRow zEn x.entries + x.kids.length
def wNd (x : Nd) : Prop := (x.entries.length ≤ 9223372036854775807 ∧ ∀ e ∈ x.entries, wEn e) ∧ (x.kids.length ≤ 9223372036854775807)
def zTr (x : Tr) : Nat := zRow zNd x.nodes
def wTr (x : Tr) : Prop := (x.nodes.length ≤ 9223372036854775807 ∧ ∀ e ∈ x.nodes, wNd e)
theorem szByteS_ok (xs : List Int) (vxs : Value) (left : Int) (w : World) (hxs : rdRow kU8 w.heap xs vxs) (h0 : 0 ≤ left) (h1 : left ≤ 1048576) (hw : xs.length ≤ 9223372036854775807) :
    Calls Try.prog 64 #[vxs, .int .i64 left] w fun e w' => ∃ r : Int, e = .returned (.int .i64 r) ∧ Below w.heap.size w w' ∧ ((((xs.length : Nat) : Int) ≤ left ∧ r = left - ((xs.length : Nat) : Int)) ∨ (left < ((xs.length : Nat) : Int) ∧ r = -1)) := by
  obtain ⟨Axs, cxs, rfl⟩ := rdRow_form hxs
  refine enter (args := [.one (.v (.slice Axs xs.length cxs)), .one (.v (.int .i64 left))]) Try.func64 (c := bodyOf Try.f64) rfl rfl (start_LOK _) (start_old w) ?_
  have nf_1 : IntKind.i64.wrap (left - (xs.length : Int)) = left - xs.length := by rw [IntKind.wrap_i64]; omega
  refine go mixed 2000 [1, 10] 0 (St.mk Rg.no [kCd (bitL 4 11), kCd (bitL 3 7)] [(1, vI (IntKind.i64.wrap (left - (↑xs.length : Int)))), (10, vB (decide (IntKind.i64.wrap (left - (↑xs.length : Int)) < 0)))] []) (by kernel_rfl) (by kernel_rfl) (by kernel_rfl) ?_
  simp only [fl_ne_self, fl_eq_self, fl_eq0, fl_ne0, fl_gt0, fl_lt0, nf_1]
  refine split_at 10 (b := decide (left - (↑xs.length : Int) < 0)) (by kernel_rfl) (by kernel_rfl) ?_ ?_
  · intro hb1
    replace hb1 := of_decide_eq_true hb1
    refine go mixed 2000 [4] 0 (St.mk Rg.no [kCd (bitL 6 43), kCd (bitL 3 7)] [(4, vI (-1))] []) (by kernel_rfl) (by kernel_rfl) (by kernel_rfl) ?_
    refine ret_ok (vs := [vI (-1)]) (by kernel_rfl) ?_
    intro L w1 hs
    exact ⟨_, rfl, hs.out0, by omega⟩
  · intro hb1
    replace hb1 := of_decide_eq_false hb1
    refine go mixed 2000 [4] 0 (St.mk Rg.no [kCd (bitL 4 15)] [(4, vI (left - (↑xs.length : Int)))] []) (by kernel_rfl) (by kernel_rfl) (by kernel_rfl) ?_
    refine ret_ok (vs := [vI (left - (↑xs.length : Int))]) (by kernel_rfl) ?_
    intro L w1 hs
    exact ⟨_, rfl, hs.out0, by omega⟩

theorem szIntS_ok (xs : List Int) (vxs : Value) (left : Int) (w : World) (hxs : rdRow kI64 w.heap xs vxs) (h0 : 0 ≤ left) (h1 : left ≤ 1048576) (hw : xs.length ≤ 9223372036854775807) :
    Calls Try.prog 135 #[vxs, .int .i64 left] w fun e w' => ∃ r : Int, e = .returned (.int .i64 r) ∧ Below w.heap.size w w' ∧ ((((xs.length : Nat) : Int) ≤ left ∧ r = left - ((xs.length : Nat) : Int)) ∨ (left < ((xs.length : Nat) : Int) ∧ r = -1)) := by
  obtain ⟨Axs, cxs, rfl⟩ := rdRow_form hxs
  refine enter (args := [.one (.v (.slice Axs xs.length cxs)), .one (.v (.int .i64 left))]) Try.func135 (c := bodyOf Try.f135) rfl rfl (start_LOK _) (start_old w) ?_
  have nf_1 : IntKind.i64.wrap (left - (xs.length : Int)) = left - xs.length := by rw [IntKind.wrap_i64]; omega
  refine go mixed 2000 [1, 10] 0 (St.mk Rg.no [kCd (bitL 4 11), kCd (bitL 3 7)] [(1, vI (IntKind.i64.wrap (left - (↑xs.length : Int)))), (10, vB (decide (IntKind.i64.wrap (left - (↑xs.length : Int)) < 0)))] []) (by kernel_rfl) (by kernel_rfl) (by kernel_rfl) ?_
  simp only [fl_ne_self, fl_eq_self, fl_eq0, fl_ne0, fl_gt0, fl_lt0, nf_1]
  refine split_at 10 (b := decide (left - (↑xs.length : Int) < 0)) (by kernel_rfl) (by kernel_rfl) ?_ ?_
  · intro hb1
    replace hb1 := of_decide_eq_true hb1
    refine go mixed 2000 [4] 0 (St.mk Rg.no [kCd (bitL 6 43), kCd (bitL 3 7)] [(4, vI (-1))] []) (by kernel_rfl) (by kernel_rfl) (by kernel_rfl) ?_
    refine ret_ok (vs := [vI (-1)]) (by kernel_rfl) ?_
    intro L w1 hs
    exact ⟨_, rfl, hs.out0, by omega⟩
  · intro hb1
    replace hb1 := of_decide_eq_false hb1
    refine go mixed 2000 [4] 0 (St.mk Rg.no [kCd (bitL 4 15)] [(4, vI (left - (↑xs.length : Int)))] []) (by kernel_rfl) (by kernel_rfl) (by kernel_rfl) ?_
    refine ret_ok (vs := [vI (left - (↑xs.length : Int))]) (by kernel_rfl) ?_
    intro L w1 hs
    exact ⟨_, rfl, hs.out0, by omega⟩

theorem szItem_ok (x : It) (csx : List Value) (left : Int) (w : World) (hx : kIt.rd w.heap x csx) (h0 : 0 ≤ left) (h1 : left ≤ 1048576) (hw : wIt x) :
    Calls Try.prog 25 #[.agg csx.toArray, .int .i64 left] w fun e w' => ∃ r : Int, e = .returned (.int .i64 r) ∧ Below w.heap.size w w' ∧ ((((zIt x : Nat) : Int) ≤ left ∧ r = left - ((zIt x : Nat) : Int)) ∨ (left < ((zIt x : Nat) : Int) ∧ r = -1)) := by
  obtain ⟨bxf, Axt, cxt, rfl, hbxf, hfxf, hrxt⟩ := kIt_inv hx
  refine enter (args := [.agg [.v (.int .i64 x.kind), .v (.int .i64 x.n), .v (.float .f64 bxf), .v (.slice Axt x.t.length cxt)], .one (.v (.int .i64 left))]) Try.func25 (c := bodyOf Try.f25) rfl rfl (start_LOK _) (start_old w) ?_
  have hz : zIt x = x.t.length := rfl
  have hw0 : x.t.length ≤ 9223372036854775807 := hw
  refine go mixed 2000 [6, 7] 0 (St.mk (Rg.sq [true, false] 3) [KI.code [true, true]] [(6, vS Axt x.t.length cxt), (7, vI left)] []) (by kernel_rfl) (by kernel_rfl) (by kernel_rfl) ?_
  refine call_at true (by kernel_rfl : atC _ _ _ true = some (64, [vS Axt x.t.length cxt, vI left], some 8, Rg.sq [true, false] 4)) (by kernel_rfl) (fun L w1 hs => (Go.Proofs.Ytgleoebogikooaa.Dk.szByteS_ok (x.t) (Value.slice Axt x.t.length cxt) (left) w1 (rdRow_ext (hs.old 0 rfl) hrxt) (by assumption) (by assumption) (by assumption)).mono ?_)
  rintro e_ w2_ ⟨r_1, rfl, hf_, hq1⟩
  refine ⟨.one (.v (Value.int IntKind.i64 r_1)), _, _, rfl, fun _ => hf_.block, hs.below hf_, ?_⟩
  clear hs hf_
  refine go mixed 2000 [1, 10] 0 (St.mk Rg.no [kCd (bitL 4 11), kCd (bitL 3 7)] [(1, vI r_1), (10, vB (decide (r_1 < 0)))] []) (by kernel_rfl) (by kernel_rfl) (by kernel_rfl) ?_
  refine split_at 10 (b := decide (r_1 < 0)) (by kernel_rfl) (by kernel_rfl) ?_ ?_
  · intro hb1
    replace hb1 := of_decide_eq_true hb1
    refine go mixed 2000 [4] 0 (St.mk Rg.no [kCd (bitL 6 43), kCd (bitL 3 7)] [(4, vI (-1))] []) (by kernel_rfl) (by kernel_rfl) (by kernel_rfl) ?_
    refine ret_ok (vs := [vI (-1)]) (by kernel_rfl) ?_
    intro L w1 hs
    exact ⟨_, rfl, hs.out0, by omega⟩
  · intro hb1
    replace hb1 := of_decide_eq_false hb1
    refine go mixed 2000 [4] 0 (St.mk Rg.no [kCd (bitL 4 15)] [(4, vI r_1)] []) (by kernel_rfl) (by kernel_rfl) (by kernel_rfl) ?_
    refine ret_ok (vs := [vI r_1]) (by kernel_rfl) ?_
    intro L w1 hs
    exact ⟨_, rfl, hs.out0, by omega⟩

theorem szEntry_ok (x : En) (csx : List Value) (left : Int) (w : World) (hx : kEn.rd w.heap x csx) (h0 : 0 ≤ left) (h1 : left ≤ 1048576) (hw : wEn x) :
    Calls Try.prog 174 #[.agg csx.toArray, .int .i64 left] w fun e w' => ∃ r : Int, e = .returned (.int .i64 r) ∧ Below w.heap.size w w' ∧ ((((zEn x : Nat) : Int) ≤ left ∧ r = left - ((zEn x : Nat) : Int)) ∨ (left < ((zEn x : Nat) : Int) ∧ r = -1)) := by
  obtain ⟨bxkey_f, Axkey_t, cxkey_t, rfl, hbxkey_f, hfxkey_f, hrxkey_t⟩ := kEn_inv hx
  refine enter (args := [.agg [.v (.int .i64 x.key.kind), .v (.int .i64 x.key.n), .v (.float .f64 bxkey_f), .v (.slice Axkey_t x.key.t.length cxkey_t), .v (.int .i64 x.id)], .one (.v (.int .i64 left))]) Try.func174 (c := bodyOf Try.f174) rfl rfl (start_LOK _) (start_old w) ?_
  have hz : zEn x = zIt x.key := rfl
  have hw0 : wIt x.key := hw
  refine go mixed 2000 [6, 7] 0 (St.mk (Rg.sq [true, false] 3) [KI.code [true, true]] [(6, SV.agg [cI x.key.kind, cI x.key.n, cF bxkey_f, cS Axkey_t x.key.t.length cxkey_t]), (7, vI left)] []) (by kernel_rfl) (by kernel_rfl) (by kernel_rfl) ?_
  refine call_at true (by kernel_rfl : atC _ _ _ true = some (25, [SV.agg [cI x.key.kind, cI x.key.n, cF bxkey_f, cS Axkey_t x.key.t.length cxkey_t], vI left], some 8, Rg.sq [true, false] 4)) (by kernel_rfl) (fun L w1 hs => (Go.Proofs.Ytgleoebogikooaa.Dk.szItem_ok (x.key) ([Value.int IntKind.i64 x.key.kind, Value.int IntKind.i64 x.key.n, Value.float FloatKind.f64 bxkey_f, Value.slice Axkey_t x.key.t.length cxkey_t]) (left) w1 (Go.Proofs.Ytgleoebogikooaa.Dk.kIt_mk (by assumption) hfxkey_f (rdRow_ext (hs.old 0 rfl) hrxkey_t)) (by assumption) (by assumption) (by assumption)).mono ?_)
  rintro e_ w2_ ⟨r_1, rfl, hf_, hq1⟩
  refine ⟨.one (.v (Value.int IntKind.i64 r_1)), _, _, rfl, fun _ => hf_.block, hs.below hf_, ?_⟩
  clear hs hf_
  refine go mixed 2000 [1, 10] 0 (St.mk Rg.no [kCd (bitL 4 11), kCd (bitL 3 7)] [(1, vI r_1), (10, vB (decide (r_1 < 0)))] []) (by kernel_rfl) (by kernel_rfl) (by kernel_rfl) ?_
  refine split_at 10 (b := decide (r_1 < 0)) (by kernel_rfl) (by kernel_rfl) ?_ ?_
  · intro hb1
    replace hb1 := of_decide_eq_true hb1
    refine go mixed 2000 [4] 0 (St.mk Rg.no [kCd (bitL 6 43), kCd (bitL 3 7)] [(4, vI (-1))] []) (by kernel_rfl) (by kernel_rfl) (by kernel_rfl) ?_
    refine ret_ok (vs := [vI (-1)]) (by kernel_rfl) ?_
    intro L w1 hs
    exact ⟨_, rfl, hs.out0, by omega⟩
  · intro hb1
    replace hb1 := of_decide_eq_false hb1
    refine go mixed 2000 [4] 0 (St.mk Rg.no [kCd (bitL 4 15)] [(4, vI r_1)] []) (by kernel_rfl) (by kernel_rfl) (by kernel_rfl) ?_
    refine ret_ok (vs := [vI r_1]) (by kernel_rfl) ?_
    intro L w1 hs
    exact ⟨_, rfl, hs.out0, by omega⟩

theorem szEntryS_ok (xs : List En) (vxs : Value) (left : Int) (w : World) (hxs : rdRow kEn w.heap xs vxs) (h0 : 0 ≤ left) (h1 : left ≤ 1048576) (hw : xs.length ≤ 9223372036854775807 ∧ ∀ e ∈ xs, wEn e) :
    Calls Try.prog 134 #[vxs, .int .i64 left] w fun e w' => ∃ r : Int, e = .returned (.int .i64 r) ∧ Below w.heap.size w w' ∧ ((((zRow zEn xs : Nat) : Int) ≤ left ∧ r = left - ((zRow zEn xs : Nat) : Int)) ∨ (left < ((zRow zEn xs : Nat) : Int) ∧ r = -1)) := by
  obtain ⟨Axs, cxs, rfl⟩ := rdRow_form hxs
  refine enter (args := [.one (.v (.slice Axs xs.length cxs)), .one (.v (.int .i64 left))]) Try.func134 (c := bodyOf Try.f134) rfl rfl (start_LOK _) (start_old w) ?_
  have hwl := hw.1
  have sd_1 : ∀ (j : Nat) (h : j < xs.length), wEn xs[j] := fun j h => hw.2 _ (List.getElem_mem h)
  have hz : zRow zEn xs = xs.length + (xs.map zEn).sum := rfl
  have nf_1 : IntKind.i64.wrap (left - (xs.length : Int)) = left - xs.length := by rw [IntKind.wrap_i64]; omega
  refine go mixed 2000 [0, 1, 11] 0 (St.mk Rg.no [kCd (bitL 4 11), kCd (bitL 3 7)] [(0, vS Axs xs.length cxs), (1, vI (IntKind.i64.wrap (left - (↑xs.length : Int)))), (11, vB (decide (IntKind.i64.wrap (left - (↑xs.length : Int)) < 0)))] []) (by kernel_rfl) (by kernel_rfl) (by kernel_rfl) ?_
  simp only [fl_ne_self, fl_eq_self, fl_eq0, fl_ne0, fl_gt0, fl_lt0, nf_1]
  refine split_at 11 (b := decide (left - (↑xs.length : Int) < 0)) (by kernel_rfl) (by kernel_rfl) ?_ ?_
  · intro hb1
    replace hb1 := of_decide_eq_true hb1
    refine go mixed 2000 [4] 0 (St.mk Rg.no [kCd (bitL 6 43), kCd (bitL 3 7)] [(4, vI (-1))] []) (by kernel_rfl) (by kernel_rfl) (by kernel_rfl) ?_
    refine ret_ok (vs := [vI (-1)]) (by kernel_rfl) ?_
    intro L w1 hs
    exact ⟨_, rfl, hs.out0, by omega⟩
  intro hb1
  replace hb1 := of_decide_eq_false hb1
  refine go mixed 2000 [0, 1, 5] 0 (St.mk Rg.no [kLp (bitL 7 119), KI.block 0, kCd (bitL 4 15)] [(0, vS Axs xs.length cxs), (1, vI (left - (↑xs.length : Int))), (5, vI 0)] []) (by kernel_rfl) (by kernel_rfl) (by kernel_rfl) ?_
  refine loop_at (ι := Nat × Int) (fun s => [(5, .one (.v (.int .i64 s.1))), (1, .one (.v (.int .i64 s.2)))]) (fun _ => []) (fun _ => [oldA w]) (fun s => s.1 ≤ xs.length ∧ 0 ≤ s.2 ∧ s.2 = left - xs.length - (sumT zEn xs s.1 : Nat)) (fun s => xs.length - s.1) (0, left - xs.length) rfl rfl rfl ⟨Nat.zero_le _, by simp only; omega, by simp [sumT]⟩ ?_
  rintro ⟨i, l⟩ ⟨hi1, hi2, hi3⟩ ih
  simp only at hi1 hi2 hi3 ih ⊢
  have hs1 := sumT_succ zEn xs i
  have hs2 := sumT_le zEn xs
  have hs3 := sumT_all zEn xs i
  refine go mixed 2000 [0, 1, 5, 15] 0 (St.mk Rg.no [kCd (bitL 9 375), kCd (bitL 8 247), kLp (bitL 7 119), KI.block 0, kCd (bitL 4 15)] [(0, vS Axs xs.length cxs), (1, vI l), (5, vI (↑i : Int)), (15, vB (decide ((↑i : Int) < (↑xs.length : Int))))] []) (by kernel_rfl) (by kernel_rfl) (by kernel_rfl) ?_
  refine split_at 15 (b := decide ((↑i : Int) < (↑xs.length : Int))) (by kernel_rfl) (by kernel_rfl) ?_ ?_
  · intro hb2
    replace hb2 := of_decide_eq_true hb2
    refine go mixed 2000 [0, 1, 5, 18, 19] 0 (St.mk (Rg.sq (bitL 11 759) 2) [kCd (bitL 11 1783), KI.block 1, kCd (bitL 9 503), kLp (bitL 7 119), KI.block 0, kCd (bitL 4 15)] [(0, vS Axs xs.length cxs), (1, vI l), (5, vI (↑i : Int)), (18, vS Axs xs.length cxs), (19, vI (↑i : Int))] []) (by kernel_rfl) (by kernel_rfl) (by kernel_rfl) ?_
    refine index_at 2 (by kernel_rfl : atP _ _ _ 2 false = some (Op.indexAddr 133 (tmpO 18) (tmpO 19), 0, some 20, Rg.sq (bitL 11 759) 3)) (ni := i) (sz := 5) (by kernel_rfl) rfl rfl rfl (by omega) (fun L w1 hs => rd_some (i := i) (rdRow_ext (hs.old 0 rfl) hxs) (by omega)) ?_
    intro a_1 ha_1
    cases ha_1
    refine go mixed 2000 [0, 1, 5, 20] 0 (St.mk (Rg.sq (bitL 11 759) 3) [kCd (bitL 11 1783), KI.block 1, kCd (bitL 9 503), kLp (bitL 7 119), KI.block 0, kCd (bitL 4 15)] [(0, vS (some a_1) xs.length cxs), (1, vI l), (5, vI (↑i : Int)), (20, vP (a_1.add (i * 5)))] []) (by kernel_rfl) (by kernel_rfl) (by kernel_rfl) ?_
    obtain ⟨bkey_f_el1, Akey_t_el1, ckey_t_el1, hr1_el1, hr2_el1, hr3_el1, hc_el1⟩ := Go.Proofs.Ytgleoebogikooaa.Dk.kEn_at (i := i) hxs (by omega)
    refine load_agg 3 (by kernel_rfl : atP _ _ _ 3 true = some (Op.load 185 (tmpO 20), 185, some 21, Rg.sq (bitL 11 759) 4)) (n := 5) (by kernel_rfl) rfl ?_
    intro L w1 hs
    refine ⟨[.v (Value.int IntKind.i64 xs[i].key.kind), .v (Value.int IntKind.i64 xs[i].key.n), .v (Value.float FloatKind.f64 bkey_f_el1), .v (Value.slice Akey_t_el1 xs[i].key.t.length ckey_t_el1), .v (Value.int IntKind.i64 xs[i].id)], rfl, cells_at0 (cellsH_ext (hs.old 0 rfl) hc_el1) rfl, ?_⟩
    clear hs
    refine go mixed 2000 [0, 5, 21, 22] 0 (St.mk (Rg.sq (bitL 11 759) 5) [kCd (bitL 11 1783), KI.block 1, kCd (bitL 9 503), kLp (bitL 7 119), KI.block 0, kCd (bitL 4 15)] [(0, vS (some a_1) xs.length cxs), (5, vI (↑i : Int)), (21, SV.agg [cI xs[i].key.kind, cI xs[i].key.n, cF bkey_f_el1, cS Akey_t_el1 xs[i].key.t.length ckey_t_el1, cI xs[i].id]), (22, vI l)] []) (by kernel_rfl) (by kernel_rfl) (by kernel_rfl) ?_
    refine call_at true (by kernel_rfl : atC _ _ _ true = some (174, [SV.agg [cI xs[i].key.kind, cI xs[i].key.n, cF bkey_f_el1, cS Akey_t_el1 xs[i].key.t.length ckey_t_el1, cI xs[i].id], vI l], some 23, Rg.sq (bitL 11 759) 6)) (by kernel_rfl) (fun L w1 hs => (Go.Proofs.Ytgleoebogikooaa.Dk.szEntry_ok (xs[i]) ([Value.int IntKind.i64 xs[i].key.kind, Value.int IntKind.i64 xs[i].key.n, Value.float FloatKind.f64 bkey_f_el1, Value.slice Akey_t_el1 xs[i].key.t.length ckey_t_el1, Value.int IntKind.i64 xs[i].id]) (l) w1 (Go.Proofs.Ytgleoebogikooaa.Dk.kEn_mk (by assumption) hr2_el1 (rdRow_ext (hs.old 0 rfl) hr3_el1)) (by assumption) (by omega) (by exact sd_1 _ _)).mono ?_)
    rintro e_ w2_ ⟨r_1, rfl, hf_, hq1⟩
    refine ⟨.one (.v (Value.int IntKind.i64 r_1)), _, _, rfl, fun _ => hf_.block, hs.below hf_, ?_⟩
    clear hs hf_
    refine go mixed 2000 [0, 1, 5, 25] 0 (St.mk Rg.no [kCd (bitL 12 3831), KI.block 1, kCd (bitL 9 503), kLp (bitL 7 119), KI.block 0, kCd (bitL 4 15)] [(0, vS (some a_1) xs.length cxs), (1, vI r_1), (5, vI (↑i : Int)), (25, vB (decide (r_1 < 0)))] []) (by kernel_rfl) (by kernel_rfl) (by kernel_rfl) ?_
    refine split_at 25 (b := decide (r_1 < 0)) (by kernel_rfl) (by kernel_rfl) ?_ ?_
    · intro hb3
      replace hb3 := of_decide_eq_true hb3
      refine go mixed 2000 [4] 0 (St.mk Rg.no [kCd (bitL 14 12023), KI.block 1, kCd (bitL 9 503), kLp (bitL 7 119), KI.block 0, kCd (bitL 4 15)] [(4, vI (-1))] []) (by kernel_rfl) (by kernel_rfl) (by kernel_rfl) ?_
      refine ret_ok (vs := [vI (-1)]) (by kernel_rfl) ?_
      intro L w1 hs
      exact ⟨_, rfl, hs.out0, by have := hs1 (by omega); have := hs2 (i + 1); omega⟩
    · intro hb3
      replace hb3 := of_decide_eq_false hb3
      refine go mixed 2000 [0, 1, 5] 0 (St.mk Rg.no [kLp (bitL 7 119), KI.block 0, kCd (bitL 4 15)] [(0, vS (some a_1) xs.length cxs), (1, vI r_1), (5, vI (IntKind.i64.wrap ((↑i : Int) + 1)))] []) (by kernel_rfl) (by kernel_rfl) (by kernel_rfl) ?_
      rw [wrap_succ (by omega)]; exact ih (i + 1, _) ⟨by omega, by simp only; omega, by have := hs1 (by omega); simp only; omega⟩ (by simp only; omega)
  · intro hb2
    replace hb2 := of_decide_eq_false hb2
    refine go mixed 2000 [4] 0 (St.mk Rg.no [kCd (bitL 5 31)] [(4, vI l)] []) (by kernel_rfl) (by kernel_rfl) (by kernel_rfl) ?_
    refine ret_ok (vs := [vI l]) (by kernel_rfl) ?_
    intro L w1 hs
    exact ⟨_, rfl, hs.out0, by have := hs3 (by omega); omega⟩

theorem szNode_ok (x : Nd) (csx : List Value) (left : Int) (w : World) (hx : kNd.rd w.heap x csx) (h0 : 0 ≤ left) (h1 : left ≤ 1048576) (hw : wNd x) :
    Calls Try.prog 96 #[.agg csx.toArray, .int .i64 left] w fun e w' => ∃ r : Int, e = .returned (.int .i64 r) ∧ Below w.heap.size w w' ∧ ((((zNd x : Nat) : Int) ≤ left ∧ r = left - ((zNd x : Nat) : Int)) ∨ (left < ((zNd x : Nat) : Int) ∧ r = -1)) := by
  obtain ⟨Axentries, cxentries, Axkids, cxkids, rfl, hrxentries, hrxkids⟩ := kNd_inv hx
  refine enter (args := [.agg [.bo x.leaf, .v (.slice Axentries x.entries.length cxentries), .v (.slice Axkids x.kids.length cxkids)], .one (.v (.int .i64 left))]) Try.func96 (c := bodyOf Try.f96) rfl rfl (start_LOK _) (start_old w) ?_
  have hz : zNd x = zRow zEn x.entries + x.kids.length := rfl
  obtain ⟨hw0, hw1⟩ : (x.entries.length ≤ 9223372036854775807 ∧ ∀ e ∈ x.entries, wEn e) ∧ (x.kids.length ≤ 9223372036854775807) := hw
  refine go mixed 2000 [2, 6, 7] 1 (St.mk (Rg.sq [true, false] 3) [KI.code [true, true]] [(2, vR 0 0), (6, vS Axentries x.entries.length cxentries), (7, vI left)] [LB.mk [SC.bo x.leaf, cS Axentries x.entries.length cxentries, cS Axkids x.kids.length cxkids] 135]) (by kernel_rfl) (by kernel_rfl) (by kernel_rfl) ?_
  refine call_at true (by kernel_rfl : atC _ _ _ true = some (134, [vS Axentries x.entries.length cxentries, vI left], some 8, Rg.sq [true, false] 4)) (by kernel_rfl) (fun L w1 hs => (Go.Proofs.Ytgleoebogikooaa.Dk.szEntryS_ok (x.entries) (Value.slice Axentries x.entries.length cxentries) (left) w1 (rdRow_ext (hs.old 0 rfl) hrxentries) (by assumption) (by assumption) (by assumption)).mono ?_)
  rintro e_ w2_ ⟨r_1, rfl, hf_, hq1⟩
  refine ⟨.one (.v (Value.int IntKind.i64 r_1)), _, _, rfl, fun _ => hf_.block, hs.below hf_, ?_⟩
  clear hs hf_
  refine go mixed 2000 [1, 2, 10] 1 (St.mk Rg.no [kCd (bitL 4 11), kCd (bitL 3 7)] [(1, vI r_1), (2, vR 0 0), (10, vB (decide (r_1 < 0)))] [LB.mk [SC.bo x.leaf, cS Axentries x.entries.length cxentries, cS Axkids x.kids.length cxkids] 135]) (by kernel_rfl) (by kernel_rfl) (by kernel_rfl) ?_
  refine split_at 10 (b := decide (r_1 < 0)) (by kernel_rfl) (by kernel_rfl) ?_ ?_
  · intro hb1
    replace hb1 := of_decide_eq_true hb1
    refine go mixed 2000 [4] 0 (St.mk Rg.no [kCd (bitL 6 43), kCd (bitL 3 7)] [(4, vI (-1))] []) (by kernel_rfl) (by kernel_rfl) (by kernel_rfl) ?_
    refine ret_ok (vs := [vI (-1)]) (by kernel_rfl) ?_
    intro L w1 hs
    exact ⟨_, rfl, hs.out0, by omega⟩
  · intro hb1
    replace hb1 := of_decide_eq_false hb1
    refine go mixed 2000 [12, 13] 0 (St.mk (Rg.sq (bitL 4 7) 3) [kCd (bitL 4 15)] [(12, vS Axkids x.kids.length cxkids), (13, vI r_1)] []) (by kernel_rfl) (by kernel_rfl) (by kernel_rfl) ?_
    refine call_at true (by kernel_rfl : atC _ _ _ true = some (135, [vS Axkids x.kids.length cxkids, vI r_1], some 14, Rg.sq (bitL 4 7) 4)) (by kernel_rfl) (fun L w1 hs => (Go.Proofs.Ytgleoebogikooaa.Dk.szIntS_ok (x.kids) (Value.slice Axkids x.kids.length cxkids) (r_1) w1 (rdRow_ext (hs.old 0 rfl) hrxkids) (by omega) (by omega) (by assumption)).mono ?_)
    rintro e_ w2_ ⟨r_2, rfl, hf_, hq2⟩
    refine ⟨.one (.v (Value.int IntKind.i64 r_2)), _, _, rfl, fun _ => hf_.block, hs.below hf_, ?_⟩
    clear hs hf_
    refine go mixed 2000 [1, 16] 0 (St.mk Rg.no [kCd (bitL 6 47), kCd (bitL 5 31)] [(1, vI r_2), (16, vB (decide (r_2 < 0)))] []) (by kernel_rfl) (by kernel_rfl) (by kernel_rfl) ?_
    refine split_at 16 (b := decide (r_2 < 0)) (by kernel_rfl) (by kernel_rfl) ?_ ?_
    · intro hb2
      replace hb2 := of_decide_eq_true hb2
      refine go mixed 2000 [4] 0 (St.mk Rg.no [kCd (bitL 8 175), kCd (bitL 5 31)] [(4, vI (-1))] []) (by kernel_rfl) (by kernel_rfl) (by kernel_rfl) ?_
      refine ret_ok (vs := [vI (-1)]) (by kernel_rfl) ?_
      intro L w1 hs
      exact ⟨_, rfl, hs.out0, by omega⟩
    · intro hb2
      replace hb2 := of_decide_eq_false hb2
      refine go mixed 2000 [4] 0 (St.mk Rg.no [kCd (bitL 6 63)] [(4, vI r_2)] []) (by kernel_rfl) (by kernel_rfl) (by kernel_rfl) ?_
      refine ret_ok (vs := [vI r_2]) (by kernel_rfl) ?_
      intro L w1 hs
      exact ⟨_, rfl, hs.out0, by omega⟩

theorem szNodeS_ok (xs : List Nd) (vxs : Value) (left : Int) (w : World) (hxs : rdRow kNd w.heap xs vxs) (h0 : 0 ≤ left) (h1 : left ≤ 1048576) (hw : xs.length ≤ 9223372036854775807 ∧ ∀ e ∈ xs, wNd e) :
    Calls Try.prog 52 #[vxs, .int .i64 left] w fun e w' => ∃ r : Int, e = .returned (.int .i64 r) ∧ Below w.heap.size w w' ∧ ((((zRow zNd xs : Nat) : Int) ≤ left ∧ r = left - ((zRow zNd xs : Nat) : Int)) ∨ (left < ((zRow zNd xs : Nat) : Int) ∧ r = -1)) := by
  obtain ⟨Axs, cxs, rfl⟩ := rdRow_form hxs
  refine enter (args := [.one (.v (.slice Axs xs.length cxs)), .one (.v (.int .i64 left))]) Try.func52 (c := bodyOf Try.f52) rfl rfl (start_LOK _) (start_old w) ?_
  have hwl := hw.1
  have sd_1 : ∀ (j : Nat) (h : j < xs.length), wNd xs[j] := fun j h => hw.2 _ (List.getElem_mem h)
  have hz : zRow zNd xs = xs.length + (xs.map zNd).sum := rfl
  have nf_1 : IntKind.i64.wrap (left - (xs.length : Int)) = left - xs.length := by rw [IntKind.wrap_i64]; omega
  refine go mixed 2000 [0, 1, 11] 0 (St.mk Rg.no [kCd (bitL 4 11), kCd (bitL 3 7)] [(0, vS Axs xs.length cxs), (1, vI (IntKind.i64.wrap (left - (↑xs.length : Int)))), (11, vB (decide (IntKind.i64.wrap (left - (↑xs.length : Int)) < 0)))] []) (by kernel_rfl) (by kernel_rfl) (by kernel_rfl) ?_
  simp only [fl_ne_self, fl_eq_self, fl_eq0, fl_ne0, fl_gt0, fl_lt0, nf_1]
  refine split_at 11 (b := decide (left - (↑xs.length : Int) < 0)) (by kernel_rfl) (by kernel_rfl) ?_ ?_
  · intro hb1
    replace hb1 := of_decide_eq_true hb1
    refine go mixed 2000 [4] 0 (St.mk Rg.no [kCd (bitL 6 43), kCd (bitL 3 7)] [(4, vI (-1))] []) (by kernel_rfl) (by kernel_rfl) (by kernel_rfl) ?_
    refine ret_ok (vs := [vI (-1)]) (by kernel_rfl) ?_
    intro L w1 hs
    exact ⟨_, rfl, hs.out0, by omega⟩
  intro hb1
  replace hb1 := of_decide_eq_false hb1
  refine go mixed 2000 [0, 1, 5] 0 (St.mk Rg.no [kLp (bitL 7 119), KI.block 0, kCd (bitL 4 15)] [(0, vS Axs xs.length cxs), (1, vI (left - (↑xs.length : Int))), (5, vI 0)] []) (by kernel_rfl) (by kernel_rfl) (by kernel_rfl) ?_
  refine loop_at (ι := Nat × Int) (fun s => [(5, .one (.v (.int .i64 s.1))), (1, .one (.v (.int .i64 s.2)))]) (fun _ => []) (fun _ => [oldA w]) (fun s => s.1 ≤ xs.length ∧ 0 ≤ s.2 ∧ s.2 = left - xs.length - (sumT zNd xs s.1 : Nat)) (fun s => xs.length - s.1) (0, left - xs.length) rfl rfl rfl ⟨Nat.zero_le _, by simp only; omega, by simp [sumT]⟩ ?_
  rintro ⟨i, l⟩ ⟨hi1, hi2, hi3⟩ ih
  simp only at hi1 hi2 hi3 ih ⊢
  have hs1 := sumT_succ zNd xs i
  have hs2 := sumT_le zNd xs
  have hs3 := sumT_all zNd xs i
  refine go mixed 2000 [0, 1, 5, 15] 0 (St.mk Rg.no [kCd (bitL 9 375), kCd (bitL 8 247), kLp (bitL 7 119), KI.block 0, kCd (bitL 4 15)] [(0, vS Axs xs.length cxs), (1, vI l), (5, vI (↑i : Int)), (15, vB (decide ((↑i : Int) < (↑xs.length : Int))))] []) (by kernel_rfl) (by kernel_rfl) (by kernel_rfl) ?_
  refine split_at 15 (b := decide ((↑i : Int) < (↑xs.length : Int))) (by kernel_rfl) (by kernel_rfl) ?_ ?_
  · intro hb2
    replace hb2 := of_decide_eq_true hb2
    refine go mixed 2000 [0, 1, 5, 18, 19] 0 (St.mk (Rg.sq (bitL 11 759) 2) [kCd (bitL 11 1783), KI.block 1, kCd (bitL 9 503), kLp (bitL 7 119), KI.block 0, kCd (bitL 4 15)] [(0, vS Axs xs.length cxs), (1, vI l), (5, vI (↑i : Int)), (18, vS Axs xs.length cxs), (19, vI (↑i : Int))] []) (by kernel_rfl) (by kernel_rfl) (by kernel_rfl) ?_
    refine index_at 2 (by kernel_rfl : atP _ _ _ 2 false = some (Op.indexAddr 22 (tmpO 18) (tmpO 19), 0, some 20, Rg.sq (bitL 11 759) 3)) (ni := i) (sz := 3) (by kernel_rfl) rfl rfl rfl (by omega) (fun L w1 hs => rd_some (i := i) (rdRow_ext (hs.old 0 rfl) hxs) (by omega)) ?_
    intro a_1 ha_1
    cases ha_1
    refine go mixed 2000 [0, 1, 5, 20] 0 (St.mk (Rg.sq (bitL 11 759) 3) [kCd (bitL 11 1783), KI.block 1, kCd (bitL 9 503), kLp (bitL 7 119), KI.block 0, kCd (bitL 4 15)] [(0, vS (some a_1) xs.length cxs), (1, vI l), (5, vI (↑i : Int)), (20, vP (a_1.add (i * 3)))] []) (by kernel_rfl) (by kernel_rfl) (by kernel_rfl) ?_
    obtain ⟨Aentries_el1, centries_el1, Akids_el1, ckids_el1, hr1_el1, hr2_el1, hc_el1⟩ := Go.Proofs.Ytgleoebogikooaa.Dk.kNd_at (i := i) hxs (by omega)
    refine load_agg 3 (by kernel_rfl : atP _ _ _ 3 true = some (Op.load 135 (tmpO 20), 135, some 21, Rg.sq (bitL 11 759) 4)) (n := 3) (by kernel_rfl) rfl ?_
    intro L w1 hs
    refine ⟨[.bo (xs[i].leaf), .v (Value.slice Aentries_el1 xs[i].entries.length centries_el1), .v (Value.slice Akids_el1 xs[i].kids.length ckids_el1)], rfl, cells_at0 (cellsH_ext (hs.old 0 rfl) hc_el1) rfl, ?_⟩
    clear hs
    refine go mixed 2000 [0, 5, 21, 22] 0 (St.mk (Rg.sq (bitL 11 759) 5) [kCd (bitL 11 1783), KI.block 1, kCd (bitL 9 503), kLp (bitL 7 119), KI.block 0, kCd (bitL 4 15)] [(0, vS (some a_1) xs.length cxs), (5, vI (↑i : Int)), (21, SV.agg [SC.bo xs[i].leaf, cS Aentries_el1 xs[i].entries.length centries_el1, cS Akids_el1 xs[i].kids.length ckids_el1]), (22, vI l)] []) (by kernel_rfl) (by kernel_rfl) (by kernel_rfl) ?_
    refine call_at true (by kernel_rfl : atC _ _ _ true = some (96, [SV.agg [SC.bo xs[i].leaf, cS Aentries_el1 xs[i].entries.length centries_el1, cS Akids_el1 xs[i].kids.length ckids_el1], vI l], some 23, Rg.sq (bitL 11 759) 6)) (by kernel_rfl) (fun L w1 hs => (Go.Proofs.Ytgleoebogikooaa.Dk.szNode_ok (xs[i]) ([Value.bool xs[i].leaf, Value.slice Aentries_el1 xs[i].entries.length centries_el1, Value.slice Akids_el1 xs[i].kids.length ckids_el1]) (l) w1 (Go.Proofs.Ytgleoebogikooaa.Dk.kNd_mk (rdRow_ext (hs.old 0 rfl) hr1_el1) (rdRow_ext (hs.old 0 rfl) hr2_el1)) (by assumption) (by omega) (by exact sd_1 _ _)).mono ?_)
    rintro e_ w2_ ⟨r_1, rfl, hf_, hq1⟩
    refine ⟨.one (.v (Value.int IntKind.i64 r_1)), _, _, rfl, fun _ => hf_.block, hs.below hf_, ?_⟩
    clear hs hf_
    refine go mixed 2000 [0, 1, 5, 25] 0 (St.mk Rg.no [kCd (bitL 12 3831), KI.block 1, kCd (bitL 9 503), kLp (bitL 7 119), KI.block 0, kCd (bitL 4 15)] [(0, vS (some a_1) xs.length cxs), (1, vI r_1), (5, vI (↑i : Int)), (25, vB (decide (r_1 < 0)))] []) (by kernel_rfl) (by kernel_rfl) (by kernel_rfl) ?_
    refine split_at 25 (b := decide (r_1 < 0)) (by kernel_rfl) (by kernel_rfl) ?_ ?_
    · intro hb3
      replace hb3 := of_decide_eq_true hb3
      refine go mixed 2000 [4] 0 (St.mk Rg.no [kCd (bitL 14 12023), KI.block 1, kCd (bitL 9 503), kLp (bitL 7 119), KI.block 0, kCd (bitL 4 15)] [(4, vI (-1))] []) (by kernel_rfl) (by kernel_rfl) (by kernel_rfl) ?_
      refine ret_ok (vs := [vI (-1)]) (by kernel_rfl) ?_
      intro L w1 hs
      exact ⟨_, rfl, hs.out0, by have := hs1 (by omega); have := hs2 (i + 1); omega⟩
    · intro hb3
      replace hb3 := of_decide_eq_false hb3
      refine go mixed 2000 [0, 1, 5] 0 (St.mk Rg.no [kLp (bitL 7 119), KI.block 0, kCd (bitL 4 15)] [(0, vS (some a_1) xs.length cxs), (1, vI r_1), (5, vI (IntKind.i64.wrap ((↑i : Int) + 1)))] []) (by kernel_rfl) (by kernel_rfl) (by kernel_rfl) ?_
      rw [wrap_succ (by omega)]; exact ih (i + 1, _) ⟨by omega, by simp only; omega, by have := hs1 (by omega); simp only; omega⟩ (by simp only; omega)
  · intro hb2
    replace hb2 := of_decide_eq_false hb2
    refine go mixed 2000 [4] 0 (St.mk Rg.no [kCd (bitL 5 31)] [(4, vI l)] []) (by kernel_rfl) (by kernel_rfl) (by kernel_rfl) ?_
    refine ret_ok (vs := [vI l]) (by kernel_rfl) ?_
    intro L w1 hs
    exact ⟨_, rfl, hs.out0, by have := hs3 (by omega); omega⟩

theorem szTree_ok (x : Tr) (csx : List Value) (left : Int) (w : World) (hx : kTr.rd w.heap x csx) (h0 : 0 ≤ left) (h1 : left ≤ 1048576) (hw : wTr x) :
    Calls Try.prog 12 #[.agg csx.toArray, .int .i64 left] w fun e w' => ∃ r : Int, e = .returned (.int .i64 r) ∧ Below w.heap.size w w' ∧ ((((zTr x : Nat) : Int) ≤ left ∧ r = left - ((zTr x : Nat) : Int)) ∨ (left < ((zTr x : Nat) : Int) ∧ r = -1)) := by
  obtain ⟨Axnodes, cxnodes, rfl, hrxnodes⟩ := kTr_inv hx
  refine enter (args := [.agg [.v (.slice Axnodes x.nodes.length cxnodes), .v (.int .i64 x.root)], .one (.v (.int .i64 left))]) Try.func12 (c := bodyOf Try.f12) rfl rfl (start_LOK _) (start_old w) ?_
  have hz : zTr x = zRow zNd x.nodes := rfl
  have hw0 : x.nodes.length ≤ 9223372036854775807 ∧ ∀ e ∈ x.nodes, wNd e := hw
  refine go mixed 2000 [6, 7] 0 (St.mk (Rg.sq [true, false] 3) [KI.code [true, true]] [(6, vS Axnodes x.nodes.length cxnodes), (7, vI left)] []) (by kernel_rfl) (by kernel_rfl) (by kernel_rfl) ?_
  refine call_at true (by kernel_rfl : atC _ _ _ true = some (52, [vS Axnodes x.nodes.length cxnodes, vI left], some 8, Rg.sq [true, false] 4)) (by kernel_rfl) (fun L w1 hs => (Go.Proofs.Ytgleoebogikooaa.Dk.szNodeS_ok (x.nodes) (Value.slice Axnodes x.nodes.length cxnodes) (left) w1 (rdRow_ext (hs.old 0 rfl) hrxnodes) (by assumption) (by assumption) (by assumption)).mono ?_)
  rintro e_ w2_ ⟨r_1, rfl, hf_, hq1⟩
  refine ⟨.one (.v (Value.int IntKind.i64 r_1)), _, _, rfl, fun _ => hf_.block, hs.below hf_, ?_⟩
  clear hs hf_
  refine go mixed 2000 [1, 10] 0 (St.mk Rg.no [kCd (bitL 4 11), kCd (bitL 3 7)] [(1, vI r_1), (10, vB (decide (r_1 < 0)))] []) (by kernel_rfl) (by kernel_rfl) (by kernel_rfl) ?_
  refine split_at 10 (b := decide (r_1 < 0)) (by kernel_rfl) (by kernel_rfl) ?_ ?_
  · intro hb1
    replace hb1 := of_decide_eq_true hb1
    refine go mixed 2000 [4] 0 (St.mk Rg.no [kCd (bitL 6 43), kCd (bitL 3 7)] [(4, vI (-1))] []) (by kernel_rfl) (by kernel_rfl) (by kernel_rfl) ?_
    refine ret_ok (vs := [vI (-1)]) (by kernel_rfl) ?_
    intro L w1 hs
    exact ⟨_, rfl, hs.out0, by omega⟩
  · intro hb1
    replace hb1 := of_decide_eq_false hb1
    refine go mixed 2000 [4] 0 (St.mk Rg.no [kCd (bitL 4 15)] [(4, vI r_1)] []) (by kernel_rfl) (by kernel_rfl) (by kernel_rfl) ?_
    refine ret_ok (vs := [vI r_1]) (by kernel_rfl) ?_
    intro L w1 hs
    exact ⟨_, rfl, hs.out0, by omega⟩

end Go.Proofs.Ytgleoebogikooaa.Dk
