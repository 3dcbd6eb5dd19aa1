/- Walks of functions of the program: what each call returns and what it leaves in memory. Conditions: those that each theorem names. -/
import Derived.Test.YtgleoebogikooaaGreatProg
import Derived.Test.YtgleoebogikooaaGreatSxC
namespace Go.Proofs.YtgleoebogikooaaGreat.Dk
set_option linter.unusedVariables false
set_option linter.unusedSimpArgs false
open Go.Proofs.YtgleoebogikooaaGreat.Sx Go.Proofs Go.RowKit
set_option maxRecDepth 100000
set_option maxHeartbeats 1000000
theorem mixed : Tryz.prog.follows .mixedOrders = true := by kernel_rfl
theorem flx : (∀ b : Nat, (FloatKind.f64.format.order b b != some .eq) = isNaN b) ∧ (∀ b : Nat, (FloatKind.f64.format.order b b == some .eq) = !isNaN b) ∧ (∀ b : Nat, b < 18446744073709551616 → (FloatKind.f64.format.order b 0 == some .eq) = decide (b % 9223372036854775808 = 0)) ∧ (∀ b : Nat, b < 18446744073709551616 → (FloatKind.f64.format.order b 0 != some .eq) = !decide (b % 9223372036854775808 = 0)) ∧ (∀ b : Nat, b < 18446744073709551616 → (FloatKind.f64.format.order b 0 == some .gt) = decide (0 < b ∧ b ≤ 9218868437227405312)) ∧ (∀ b : Nat, b < 18446744073709551616 → (FloatKind.f64.format.order b 0 == some .lt) = decide (9223372036854775808 < b ∧ b ≤ 18442240474082181120)) :=
 ⟨fl_ne_self, fl_eq_self, fun _ => fl_eq0, fun _ => fl_ne0, fun _ => fl_gt0, fun _ => fl_lt0⟩
theorem cpk {C : Cx} {F : List HA} {st : St} (f : Nat) (aa : List SV) (dst : Option Tmp) (rg' : Rg) (v : SV) (h : ∀ L w, SOK C F st.lb L w → Calls C.P f (aa.map (SV.val L)).toArray w fun e w' => e = .returned (v.val L) ∧ Below w.heap.size w w') (hh : Holds C F ⟨rg', st.K, ptO st.tm dst v, st.lb⟩) (he : atC C.B C.fn.ntmps st true = some (f, aa, dst, rg') := by kernel_rfl) (hg : goesB C.P f = true := by kernel_rfl) : Holds C F st := call_pure true he hg v h hh
theorem cak {C : Cx} {F : List HA} {st : St} (f : Nat) (aa : List SV) (dst : Option Tmp) (rg' : Rg) (h : ∀ L w, SOK C F st.lb L w → Calls C.P f (aa.map (SV.val L)).toArray w fun e w' => ∃ (v : SV) (F' : List HA) (lb' : List LB), e = .returned (v.val L) ∧ (true = true → ∀ b, b < w.heap.size → w'.heap[b]? = w.heap[b]?) ∧ SOK C F' lb' L w' ∧ Holds C F' ⟨rg', st.K, ptO st.tm dst v, lb'⟩) (he : atC C.B C.fn.ntmps st true = some (f, aa, dst, rg') := by kernel_rfl) (hg : goesB C.P f = true := by kernel_rfl) : Holds C F st := call_at true he hg h
theorem gn {C : Cx} {F : List HA} (nl : Nat) {st : St} (R : Rg) (K : List KI) (T : List (Nat × SV)) (L : List LB) (h : Holds C F ⟨R, K, T, L⟩) (hm : C.P.follows .mixedOrders = true := by exact mixed) (he : trim2 (T.map Prod.fst) nl (exec C.P C.B C.fn.ntmps 2000 st) = ⟨R, K, T, L⟩ := by kernel_rfl) (hw : wfAll nl T L = true := by kernel_rfl) (hn : Nat.ble C.L0.length nl = true := by kernel_rfl) : Holds C F st := go hm 2000 (T.map Prod.fst) nl ⟨R, K, T, L⟩ he hw hn h
theorem rtk {C : Cx} {F : List HA} {st : St} (vs : List SV) (h : ∀ L w, SOK C F st.lb L w → C.R (.returned (retV (vs.map (SV.val L)))) w) (he : evRet C.P C.B C.fn st = some vs := by kernel_rfl) : Holds C F st := ret_ok he h
theorem spl {C : Cx} {F : List HA} {rg : Rg} {K : List KI} {tm : List (Nat × SV)} {lb : List LB} (t : Nat) (b : Bool) (h1 : b = true → Holds C F ⟨rg, K, pt tm t (.one (.v (.bool true))), lb⟩) (h2 : b = false → Holds C F ⟨rg, K, pt tm t (.one (.v (.bool false))), lb⟩) (hl : lk tm t = some (.one (.bo b)) := by kernel_rfl) (hN : Nat.blt t C.fn.ntmps = true := by kernel_rfl) : Holds C F ⟨rg, K, tm, lb⟩ := split_at t hl hN h1 h2
theorem ltk {C : Cx} {F : List HA} {rg : Rg} {K : List KI} {tm : List (Nat × SV)} {lb : List LB} (t : Nat) (b : Bool) (h : Holds C F ⟨rg, K, pt tm t (.one (.v (.bool b))), lb⟩) (hl : lk tm t = some (.one (.bo b)) := by kernel_rfl) : Holds C F ⟨rg, K, tm, lb⟩ := lit_at t hl h
theorem sbb : (∀ (p : Prop) [Decidable p], (decide p = true) = p) ∧ (∀ (p : Prop) [Decidable p], decide p = false ↔ ¬p) ∧ (∀ b : Bool, ((!b) = true) = (b = false)) ∧ (∀ b : Bool, ((!b) = false) = (b = true)) ∧ (∀ a b : Bool, ((a && b) = true) = (a = true ∧ b = true)) ∧ (∀ a b : Bool, ((a || b) = true) = (a = true ∨ b = true)) ∧ (∀ a b : Bool, (a && b) = false ↔ (a = true → b = false)) ∧ (∀ (α : Type) [BEq α] [LawfulBEq α] (a b : α), (a != b) = true ↔ a ≠ b) ∧ (∀ (α : Type) [BEq α] [LawfulBEq α] (a b : α), (a == b) = true ↔ a = b) ∧ (∀ (α : Type) [BEq α] [LawfulBEq α] (a b : α), (a != b) = false ↔ a = b) ∧ (∀ (α : Type) [BEq α] [LawfulBEq α] (a b : α), (a == b) = false ↔ a ≠ b) ∧ (∀ (α : Type) (a b : α), (a ≠ b) = ¬(a = b)) ∧ (∀ (p : Prop) [Decidable p], ¬¬p ↔ p) ∧ (∀ a b : Int, ¬a ≤ b ↔ b < a) ∧ (∀ a b : Int, ¬a < b ↔ b ≤ a) ∧ (∀ a b : Nat, ¬a ≤ b ↔ b < a) ∧ (∀ a b : Nat, ¬a < b ↔ b ≤ a) :=
 ⟨fun _ => decide_eq_true_eq, fun _ => decide_eq_false_iff_not, Bool.not_eq_true', Bool.not_eq_false', Bool.and_eq_true, Bool.or_eq_true, fun _ _ => Bool.and_eq_false_imp, fun _ _ _ _ _ => bne_iff_ne, fun _ _ _ _ _ => beq_iff_eq, fun _ _ _ _ _ => bne_eq_false_iff_eq, fun _ _ _ _ _ => beq_eq_false_iff_ne, fun _ => ne_eq, fun _ => Decidable.not_not, fun _ _ => Int.not_le, fun _ _ => Int.not_lt, fun _ _ => Nat.not_le, fun _ _ => Nat.not_lt⟩
theorem wrap_succ {i : Nat} (h : i < 9223372036854775807) : IntKind.i64.wrap ((i : Int) + 1) = ((i + 1 : Nat) : Int) := by
 rw [IntKind.wrap_i64]; omega
theorem set_fill {α : Type} (ys : List α) (z : α) {i : Nat} (hi : i < ys.length) : (ys.take i ++ List.replicate (ys.length - i) z).set i ys[i] = ys.take (i + 1) ++ List.replicate (ys.length - (i + 1)) z := by
 have hl : (ys.take i).length = i := by simp; omega
 rw [List.set_append_right _ _ (by omega), hl, Nat.sub_self, show ys.length - i = (ys.length - (i + 1)) + 1 by omega, List.replicate_succ, List.set_cons_zero, List.take_succ_eq_append_getElem hi, List.append_assoc]
 rfl
structure It where
 kind : Int
 n : Int
 f : Nat
 t : List Int
def kIt : Kn It := kVia (fun x => (x.kind, x.n, x.f, x.t)) (kPair kI64 (kPair kI64 (kPair kFc (kRow 5 kU8))))
theorem kIt_inv {h : Hp} {x : It} {cs : List Value} (hx : kIt.rd h x cs) : ∃ (bf : Nat) (At : Option Addr) (ct : Nat), cs = [.int .i64 x.kind, .int .i64 x.n, .float .f64 bf, .slice At x.t.length ct] ∧ bf < 18446744073709551616 ∧ canonF bf = x.f ∧ rdRow kU8 h x.t (.slice At x.t.length ct) := by
 obtain ⟨p0, q0, rfl, r0, p1, q1, rfl, r1, p2, q2, rfl, r2, r3⟩ := hx
 obtain rfl := r0
 obtain rfl := r1
 obtain ⟨bf, rfl, hbf, hff⟩ := r2
 obtain ⟨v3, rfl, hrt⟩ := r3
 obtain ⟨At, ct, rfl⟩ := rdRow_form hrt
 exact ⟨bf, At, ct, rfl, hbf, hff, hrt⟩
theorem kIt_mk {h : Hp} {kind : Int} {n : Int} {f : Nat} {t : List Int} {bf : Nat} {vt : Value} (hbf : bf < 18446744073709551616) (hff : canonF bf = f) (hrt : rdRow kU8 h t vt) : kIt.rd h ⟨kind, n, f, t⟩ [.int .i64 kind, .int .i64 n, .float .f64 bf, vt] :=
 ⟨[.int .i64 kind], [.int .i64 n, .float .f64 bf, vt], rfl, rfl, ⟨[.int .i64 n], [.float .f64 bf, vt], rfl, rfl, ⟨[.float .f64 bf], [vt], rfl, ⟨_, rfl, hbf, hff⟩, ⟨_, rfl, hrt⟩⟩⟩⟩
theorem within_ok (n : Int) (lo : Int) (hi : Int) (w : World) :
  Calls Tryz.prog 94 #[.int .i64 n, .int .i64 lo, .int .i64 hi] w fun e w' => e = .returned (.bool (decide (lo ≤ n) && decide (n ≤ hi))) ∧ Below w.heap.size w w' := by
 refine enter (args := [.one (.v (.int .i64 n)), .one (.v (.int .i64 lo)), .one (.v (.int .i64 hi))]) Tryz.func94 (c := bodyOf Tryz.f94) rfl rfl (start_LOK _) (start_old w) ?_
 refine gn 0 (Rg.sq [true, false] 4) [KI.code [true, true]] [(0, vI n), (2, vI hi), (10, vB (decide (lo ≤ n)))] [] ?_
 refine spl 10 (decide (lo ≤ n)) ?_ ?_
 ·intro hb1
  replace hb1 := of_decide_eq_true hb1
  refine gn 0 Rg.no [KI.code [true, true]] [(6, vB (decide (n ≤ hi)))] [] ?_
  refine rtk [vB (decide (n ≤ hi))] ?_
  intro L w1 hs
  exact ⟨retB (by rw [Bool.eq_iff_iff]; simp only [Bool.and_eq_true, Bool.or_eq_true, Bool.not_eq_true', Bool.not_eq_false', Bool.and_eq_false_imp, Bool.or_eq_false_iff, decide_eq_true_eq, decide_eq_false_iff_not, beq_iff_eq, bne_iff_ne, Bool.false_eq_true, Bool.true_eq_false, ne_eq, true_iff, false_iff, iff_true, iff_false]; omega), hs.out0⟩
 ·intro hb1
  replace hb1 := of_decide_eq_false hb1
  refine gn 0 Rg.no [KI.code [true, true]] [(6, vL false)] [] ?_
  refine rtk [vL false] ?_
  intro L w1 hs
  exact ⟨retB (by rw [Bool.eq_iff_iff]; simp only [Bool.and_eq_true, Bool.or_eq_true, Bool.not_eq_true', Bool.not_eq_false', Bool.and_eq_false_imp, Bool.or_eq_false_iff, decide_eq_true_eq, decide_eq_false_iff_not, beq_iff_eq, bne_iff_ne, Bool.false_eq_true, Bool.true_eq_false, ne_eq, true_iff, false_iff, iff_true, iff_false]; omega), hs.out0⟩
theorem l5in_ok (n : Int) (lo : Int) (hi : Int) (w : World) :
  Calls Tryz.prog 76 #[.int .i64 n, .int .i64 lo, .int .i64 hi] w fun e w' => e = .returned (.bool (decide (lo ≤ n) && decide (n ≤ hi))) ∧ Below w.heap.size w w' := by
 refine enter (args := [.one (.v (.int .i64 n)), .one (.v (.int .i64 lo)), .one (.v (.int .i64 hi))]) Tryz.func76 (c := bodyOf Tryz.f76) rfl rfl (start_LOK _) (start_old w) ?_
 refine gn 0 (Rg.sq [true, false] 4) [KI.code [true, true]] [(0, vI n), (2, vI hi), (10, vB (decide (n ≥ lo)))] [] ?_
 refine spl 10 (decide (n ≥ lo)) ?_ ?_
 ·intro hb1
  replace hb1 := of_decide_eq_true hb1
  refine gn 0 Rg.no [KI.code [true, true]] [(6, vB (decide (n ≤ hi)))] [] ?_
  refine rtk [vB (decide (n ≤ hi))] ?_
  intro L w1 hs
  exact ⟨retB (by rw [Bool.eq_iff_iff]; simp only [Bool.and_eq_true, Bool.or_eq_true, Bool.not_eq_true', Bool.not_eq_false', Bool.and_eq_false_imp, Bool.or_eq_false_iff, decide_eq_true_eq, decide_eq_false_iff_not, beq_iff_eq, bne_iff_ne, Bool.false_eq_true, Bool.true_eq_false, ne_eq, true_iff, false_iff, iff_true, iff_false]; omega), hs.out0⟩
 ·intro hb1
  replace hb1 := of_decide_eq_false hb1
  refine gn 0 Rg.no [KI.code [true, true]] [(6, vL false)] [] ?_
  refine rtk [vL false] ?_
  intro L w1 hs
  exact ⟨retB (by rw [Bool.eq_iff_iff]; simp only [Bool.and_eq_true, Bool.or_eq_true, Bool.not_eq_true', Bool.not_eq_false', Bool.and_eq_false_imp, Bool.or_eq_false_iff, decide_eq_true_eq, decide_eq_false_iff_not, beq_iff_eq, bne_iff_ne, Bool.false_eq_true, Bool.true_eq_false, ne_eq, true_iff, false_iff, iff_true, iff_false]; omega), hs.out0⟩
end Go.Proofs.YtgleoebogikooaaGreat.Dk
