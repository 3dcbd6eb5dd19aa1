/- Walks of functions of the program: what each call returns and what it leaves in memory. Conditions: those that each theorem names. -/
import Derived.Test.YtgleoebogikooaaGreatV2
namespace Go.Proofs.YtgleoebogikooaaGreat.Dk
set_option linter.unusedVariables false
set_option linter.unusedSimpArgs false
open Go.Proofs.YtgleoebogikooaaGreat.Sx Go.Proofs Go.RowKit
set_option maxRecDepth 100000
set_option maxHeartbeats 1000000
structure Tu where
 xmin : Int
 xmax : Int
 key : It
 value : It
def kTu : Kn Tu := kVia (fun x => (x.xmin, x.xmax, x.key, x.value)) (kPair kI64 (kPair kI64 (kPair kIt kIt)))
theorem kTu_inv {h : Hp} {x : Tu} {cs : List Value} (hx : kTu.rd h x cs) : ∃ (bkey_f : Nat) (Akey_t : Option Addr) (ckey_t : Nat) (bvalue_f : Nat) (Avalue_t : Option Addr) (cvalue_t : Nat), cs = [.int .i64 x.xmin, .int .i64 x.xmax, .int .i64 x.key.kind, .int .i64 x.key.n, .float .f64 bkey_f, .slice Akey_t x.key.t.length ckey_t, .int .i64 x.value.kind, .int .i64 x.value.n, .float .f64 bvalue_f, .slice Avalue_t x.value.t.length cvalue_t] ∧ bkey_f < 18446744073709551616 ∧ canonF bkey_f = x.key.f ∧ rdRow kU8 h x.key.t (.slice Akey_t x.key.t.length ckey_t) ∧ bvalue_f < 18446744073709551616 ∧ canonF bvalue_f = x.value.f ∧ rdRow kU8 h x.value.t (.slice Avalue_t x.value.t.length cvalue_t) := by
 obtain ⟨p0, q0, rfl, r0, p1, q1, rfl, r1, p2, q2, rfl, r2, r3⟩ := hx
 obtain rfl := r0
 obtain rfl := r1
 obtain ⟨bkey_f, Akey_t, ckey_t, rfl, hbkey_f, hfkey_f, hrkey_t⟩ := kIt_inv r2
 obtain ⟨bvalue_f, Avalue_t, cvalue_t, rfl, hbvalue_f, hfvalue_f, hrvalue_t⟩ := kIt_inv r3
 exact ⟨bkey_f, Akey_t, ckey_t, bvalue_f, Avalue_t, cvalue_t, rfl, hbkey_f, hfkey_f, hrkey_t, hbvalue_f, hfvalue_f, hrvalue_t⟩
theorem kTu_mk {h : Hp} {xmin : Int} {xmax : Int} {key_kind : Int} {key_n : Int} {key_f : Nat} {key_t : List Int} {value_kind : Int} {value_n : Int} {value_f : Nat} {value_t : List Int} {bkey_f : Nat} {vkey_t : Value} {bvalue_f : Nat} {vvalue_t : Value} (hbkey_f : bkey_f < 18446744073709551616) (hfkey_f : canonF bkey_f = key_f) (hrkey_t : rdRow kU8 h key_t vkey_t) (hbvalue_f : bvalue_f < 18446744073709551616) (hfvalue_f : canonF bvalue_f = value_f) (hrvalue_t : rdRow kU8 h value_t vvalue_t) : kTu.rd h ⟨xmin, xmax, ⟨key_kind, key_n, key_f, key_t⟩, ⟨value_kind, value_n, value_f, value_t⟩⟩ [.int .i64 xmin, .int .i64 xmax, .int .i64 key_kind, .int .i64 key_n, .float .f64 bkey_f, vkey_t, .int .i64 value_kind, .int .i64 value_n, .float .f64 bvalue_f, vvalue_t] :=
 ⟨[.int .i64 xmin], [.int .i64 xmax, .int .i64 key_kind, .int .i64 key_n, .float .f64 bkey_f, vkey_t, .int .i64 value_kind, .int .i64 value_n, .float .f64 bvalue_f, vvalue_t], rfl, rfl, ⟨[.int .i64 xmax], [.int .i64 key_kind, .int .i64 key_n, .float .f64 bkey_f, vkey_t, .int .i64 value_kind, .int .i64 value_n, .float .f64 bvalue_f, vvalue_t], rfl, rfl, ⟨[.int .i64 key_kind, .int .i64 key_n, .float .f64 bkey_f, vkey_t], [.int .i64 value_kind, .int .i64 value_n, .float .f64 bvalue_f, vvalue_t], rfl, (kIt_mk hbkey_f hfkey_f hrkey_t), (kIt_mk hbvalue_f hfvalue_f hrvalue_t)⟩⟩⟩
def tupOk (t : Tu) : Bool := decide (1 ≤ t.xmin) && decide (t.xmin ≤ 400) && (decide (0 ≤ t.xmax) && decide (t.xmax ≤ 400)) && keyOk t.key && valOk t.value
def tupL (t : Tu) : List (List Int) := [leI 4 t.xmin, leI 4 t.xmax, [((keyB t.key).length : Int)], keyB t.key, [((valB t.value).length : Int)], valB t.value]
def tupB (t : Tu) : List Int := if tupOk t = true then flat (tupL t) else []
theorem tupOk_parts {t : Tu} (h : tupOk t = true) : 1 ≤ t.xmin ∧ t.xmin ≤ 400 ∧ 0 ≤ t.xmax ∧ t.xmax ≤ 400 ∧ keyOk t.key = true ∧ valOk t.value = true := by
 unfold tupOk at h
 simp only [Bool.and_eq_true, decide_eq_true_eq] at h
 exact ⟨h.1.1.1.1, h.1.1.1.2, h.1.1.2.1, h.1.1.2.2, h.1.2, h.2⟩
theorem isXid_ok (n : Int) (w : World) :
  Calls Tryz.prog 93 #[.int .i64 n] w fun e w' => e = .returned (.bool (decide (1 ≤ n) && decide (n ≤ 400))) ∧ Below w.heap.size w w' := by
 refine enter (args := [.one (.v (.int .i64 n))]) Tryz.func93 (c := bodyOf Tryz.f93) rfl rfl (start_LOK _) (start_old w) ?_
 refine gn 0 (Rg.sq [true, false] 1) [KI.code [true, true]] [(3, vI n)] [] ?_
 refine cpk 94 [vI n, vI 1, vI 400] (some 4) (Rg.sq [true, false] 2) (.one (.bo (decide (1 ≤ n) && decide (n ≤ 400)))) (fun L w1 hs => (within_ok (n) (1) (400) w1)) ?_
 refine gn 0 Rg.no [KI.code [true, true]] [(2, vB (decide (1 ≤ n) && decide (n ≤ 400)))] [] ?_
 refine rtk [vB (decide (1 ≤ n) && decide (n ≤ 400))] ?_
 intro L w1 hs
 exact ⟨retB rfl, hs.out0⟩
theorem iTupOk_ok (t : Tu) (cst : List Value) (w : World) (ht : kTu.rd w.heap t cst) :
  Calls Tryz.prog 108 #[.agg cst.toArray] w fun e w' => e = .returned (.bool (tupOk t)) ∧ Below w.heap.size w w' := by
 obtain ⟨btkey_f, Atkey_t, ctkey_t, btvalue_f, Atvalue_t, ctvalue_t, rfl, hbtkey_f, hftkey_f, hrtkey_t, hbtvalue_f, hftvalue_f, hrtvalue_t⟩ := kTu_inv ht
 refine enter (args := [.agg [.v (.int .i64 t.xmin), .v (.int .i64 t.xmax), .v (.int .i64 t.key.kind), .v (.int .i64 t.key.n), .v (.float .f64 btkey_f), .v (.slice Atkey_t t.key.t.length ctkey_t), .v (.int .i64 t.value.kind), .v (.int .i64 t.value.n), .v (.float .f64 btvalue_f), .v (.slice Atvalue_t t.value.t.length ctvalue_t)]]) Tryz.func108 (c := bodyOf Tryz.f108) rfl rfl (start_LOK _) (start_old w) ?_
 refine gn 1 (Rg.sq [true, false] 2) [KI.code [true, true]] [(1, vR 0 0), (4, vI t.xmin)] [LB.mk [cI t.xmin, cI t.xmax, cI t.key.kind, cI t.key.n, cF btkey_f, cS Atkey_t t.key.t.length ctkey_t, cI t.value.kind, cI t.value.n, cF btvalue_f, cS Atvalue_t t.value.t.length ctvalue_t] 60] ?_
 refine cpk 93 [vI t.xmin] (some 5) (Rg.sq [true, false] 3) (.one (.bo (decide (1 ≤ t.xmin) && decide (t.xmin ≤ 400)))) (fun L w1 hs => (isXid_ok (t.xmin) w1)) ?_
 refine gn 1 (Rg.sq [true, false] 4) [KI.code [true, true]] [(1, vR 0 0), (6, vB (decide (1 ≤ t.xmin) && decide (t.xmin ≤ 400)))] [LB.mk [cI t.xmin, cI t.xmax, cI t.key.kind, cI t.key.n, cF btkey_f, cS Atkey_t t.key.t.length ctkey_t, cI t.value.kind, cI t.value.n, cF btvalue_f, cS Atvalue_t t.value.t.length ctvalue_t] 60] ?_
 refine spl 6 (decide (1 ≤ t.xmin) && decide (t.xmin ≤ 400)) ?_ ?_
 ·intro hb1
  try simp only [sbb] at hb1
  refine gn 1 (Rg.sq [true, false] 6) [KI.code [true, true]] [(1, vR 0 0), (6, vL true), (8, vI t.xmax)] [LB.mk [cI t.xmin, cI t.xmax, cI t.key.kind, cI t.key.n, cF btkey_f, cS Atkey_t t.key.t.length ctkey_t, cI t.value.kind, cI t.value.n, cF btvalue_f, cS Atvalue_t t.value.t.length ctvalue_t] 60] ?_
  refine cpk 94 [vI t.xmax, vI 0, vI 400] (some 9) (Rg.sq [true, false] 7) (.one (.bo (decide (0 ≤ t.xmax) && decide (t.xmax ≤ 400)))) (fun L w1 hs => (within_ok (t.xmax) (0) (400) w1)) ?_
  refine gn 1 (Rg.sq [true, false] 9) [KI.code [true, true]] [(1, vR 0 0), (11, vB (decide (0 ≤ t.xmax) && decide (t.xmax ≤ 400)))] [LB.mk [cI t.xmin, cI t.xmax, cI t.key.kind, cI t.key.n, cF btkey_f, cS Atkey_t t.key.t.length ctkey_t, cI t.value.kind, cI t.value.n, cF btvalue_f, cS Atvalue_t t.value.t.length ctvalue_t] 60] ?_
  refine spl 11 (decide (0 ≤ t.xmax) && decide (t.xmax ≤ 400)) ?_ ?_
  ·intro hb2
   try simp only [sbb] at hb2
   refine gn 1 (Rg.sq [true, false] 11) [KI.code [true, true]] [(1, vR 0 0), (11, vL true), (13, SV.agg [cI t.key.kind, cI t.key.n, cF btkey_f, cS Atkey_t t.key.t.length ctkey_t])] [LB.mk [cI t.xmin, cI t.xmax, cI t.key.kind, cI t.key.n, cF btkey_f, cS Atkey_t t.key.t.length ctkey_t, cI t.value.kind, cI t.value.n, cF btvalue_f, cS Atvalue_t t.value.t.length ctvalue_t] 60] ?_
   refine cpk 44 [SV.agg [cI t.key.kind, cI t.key.n, cF btkey_f, cS Atkey_t t.key.t.length ctkey_t]] (some 14) (Rg.sq [true, false] 12) (.one (.bo (keyOk t.key))) (fun L w1 hs => (iKeyOk_ok (t.key) ([Value.int IntKind.i64 t.key.kind, Value.int IntKind.i64 t.key.n, Value.float FloatKind.f64 btkey_f, Value.slice Atkey_t t.key.t.length ctkey_t]) w1 (kIt_mk ‹_› hftkey_f (rdRow_ext (hs.old 0 rfl) hrtkey_t)))) ?_
   refine gn 1 (Rg.sq [true, false] 14) [KI.code [true, true]] [(1, vR 0 0), (16, vB (keyOk t.key))] [LB.mk [cI t.xmin, cI t.xmax, cI t.key.kind, cI t.key.n, cF btkey_f, cS Atkey_t t.key.t.length ctkey_t, cI t.value.kind, cI t.value.n, cF btvalue_f, cS Atvalue_t t.value.t.length ctvalue_t] 60] ?_
   refine spl 16 (keyOk t.key) ?_ ?_
   ·intro hb3
    refine gn 1 (Rg.sq [true, false] 16) [KI.code [true, true]] [(1, vR 0 0), (16, vL true), (18, SV.agg [cI t.value.kind, cI t.value.n, cF btvalue_f, cS Atvalue_t t.value.t.length ctvalue_t])] [LB.mk [cI t.xmin, cI t.xmax, cI t.key.kind, cI t.key.n, cF btkey_f, cS Atkey_t t.key.t.length ctkey_t, cI t.value.kind, cI t.value.n, cF btvalue_f, cS Atvalue_t t.value.t.length ctvalue_t] 60] ?_
    refine cpk 69 [SV.agg [cI t.value.kind, cI t.value.n, cF btvalue_f, cS Atvalue_t t.value.t.length ctvalue_t]] (some 19) (Rg.sq [true, false] 17) (.one (.bo (itemOk t.value))) (fun L w1 hs => (iItemOk_ok (t.value) ([Value.int IntKind.i64 t.value.kind, Value.int IntKind.i64 t.value.n, Value.float FloatKind.f64 btvalue_f, Value.slice Atvalue_t t.value.t.length ctvalue_t]) w1 (kIt_mk ‹_› hftvalue_f (rdRow_ext (hs.old 0 rfl) hrtvalue_t)))) ?_
    refine gn 1 (Rg.sq [true, false] 19) [KI.code [true, true]] [(1, vR 0 0), (21, vB (itemOk t.value))] [LB.mk [cI t.xmin, cI t.xmax, cI t.key.kind, cI t.key.n, cF btkey_f, cS Atkey_t t.key.t.length ctkey_t, cI t.value.kind, cI t.value.n, cF btvalue_f, cS Atvalue_t t.value.t.length ctvalue_t] 60] ?_
    refine spl 21 (itemOk t.value) ?_ ?_
    ·intro hb4
     refine gn 0 Rg.no [KI.code [true, true]] [(2, vB (t.value.kind != 0))] [] ?_
     refine rtk [vB (t.value.kind != 0)] ?_
     intro L w1 hs
     exact ⟨retB (by rw [Bool.eq_iff_iff]; simp [tupOk, valOk, *]), hs.out0⟩
    ·intro hb4
     refine gn 0 Rg.no [KI.code [true, true]] [(2, vL false)] [] ?_
     refine rtk [vL false] ?_
     intro L w1 hs
     exact ⟨retB (by simp [tupOk, valOk, *]), hs.out0⟩
   ·intro hb3
    refine gn 0 Rg.no [KI.code [true, true]] [(2, vL false)] [] ?_
    refine rtk [vL false] ?_
    intro L w1 hs
    exact ⟨retB (by simp [tupOk, valOk, *]), hs.out0⟩
  ·intro hb2
   try simp only [sbb] at hb2
   refine gn 0 Rg.no [KI.code [true, true]] [(2, vL false)] [] ?_
   refine rtk [vL false] ?_
   intro L w1 hs
   exact ⟨retB (by rw [Bool.eq_iff_iff]; simp only [tupOk, valOk, Bool.and_eq_true, Bool.or_eq_true, Bool.not_eq_true', Bool.not_eq_false', Bool.and_eq_false_imp, Bool.or_eq_false_iff, decide_eq_true_eq, decide_eq_false_iff_not, beq_iff_eq, bne_iff_ne, Bool.false_eq_true, Bool.true_eq_false, ne_eq, true_iff, false_iff, iff_true, iff_false]; omega), hs.out0⟩
 ·intro hb1
  try simp only [sbb] at hb1
  refine gn 0 Rg.no [KI.code [true, true]] [(2, vL false)] [] ?_
  refine rtk [vL false] ?_
  intro L w1 hs
  exact ⟨retB (by rw [Bool.eq_iff_iff]; simp only [tupOk, valOk, Bool.and_eq_true, Bool.or_eq_true, Bool.not_eq_true', Bool.not_eq_false', Bool.and_eq_false_imp, Bool.or_eq_false_iff, decide_eq_true_eq, decide_eq_false_iff_not, beq_iff_eq, bne_iff_ne, Bool.false_eq_true, Bool.true_eq_false, ne_eq, true_iff, false_iff, iff_true, iff_false]; omega), hs.out0⟩
theorem sTupOk_ok (t : Tu) (cst : List Value) (w : World) (ht : kTu.rd w.heap t cst) :
  Calls Tryz.prog 82 #[.agg cst.toArray] w fun e w' => e = .returned (.bool (tupOk t)) ∧ Below w.heap.size w w' := by
 obtain ⟨btkey_f, Atkey_t, ctkey_t, btvalue_f, Atvalue_t, ctvalue_t, rfl, hbtkey_f, hftkey_f, hrtkey_t, hbtvalue_f, hftvalue_f, hrtvalue_t⟩ := kTu_inv ht
 refine enter (args := [.agg [.v (.int .i64 t.xmin), .v (.int .i64 t.xmax), .v (.int .i64 t.key.kind), .v (.int .i64 t.key.n), .v (.float .f64 btkey_f), .v (.slice Atkey_t t.key.t.length ctkey_t), .v (.int .i64 t.value.kind), .v (.int .i64 t.value.n), .v (.float .f64 btvalue_f), .v (.slice Atvalue_t t.value.t.length ctvalue_t)]]) Tryz.func82 (c := bodyOf Tryz.f82) rfl rfl (start_LOK _) (start_old w) ?_
 refine gn 1 (Rg.sq [true, false] 2) [KI.code [true, true]] [(1, vR 0 0), (4, vI t.xmin)] [LB.mk [cI t.xmin, cI t.xmax, cI t.key.kind, cI t.key.n, cF btkey_f, cS Atkey_t t.key.t.length ctkey_t, cI t.value.kind, cI t.value.n, cF btvalue_f, cS Atvalue_t t.value.t.length ctvalue_t] 60] ?_
 refine cpk 76 [vI t.xmin, vI 1, vI 400] (some 5) (Rg.sq [true, false] 3) (.one (.bo (decide (1 ≤ t.xmin) && decide (t.xmin ≤ 400)))) (fun L w1 hs => (l5in_ok (t.xmin) (1) (400) w1)) ?_
 refine gn 1 (Rg.sq [true, false] 4) [KI.code [true, true]] [(1, vR 0 0), (6, vB (decide (1 ≤ t.xmin) && decide (t.xmin ≤ 400)))] [LB.mk [cI t.xmin, cI t.xmax, cI t.key.kind, cI t.key.n, cF btkey_f, cS Atkey_t t.key.t.length ctkey_t, cI t.value.kind, cI t.value.n, cF btvalue_f, cS Atvalue_t t.value.t.length ctvalue_t] 60] ?_
 refine spl 6 (decide (1 ≤ t.xmin) && decide (t.xmin ≤ 400)) ?_ ?_
 ·intro hb1
  try simp only [sbb] at hb1
  refine gn 1 (Rg.sq [true, false] 6) [KI.code [true, true]] [(1, vR 0 0), (6, vL true), (8, vI t.xmax)] [LB.mk [cI t.xmin, cI t.xmax, cI t.key.kind, cI t.key.n, cF btkey_f, cS Atkey_t t.key.t.length ctkey_t, cI t.value.kind, cI t.value.n, cF btvalue_f, cS Atvalue_t t.value.t.length ctvalue_t] 60] ?_
  refine cpk 76 [vI t.xmax, vI 0, vI 400] (some 9) (Rg.sq [true, false] 7) (.one (.bo (decide (0 ≤ t.xmax) && decide (t.xmax ≤ 400)))) (fun L w1 hs => (l5in_ok (t.xmax) (0) (400) w1)) ?_
  refine gn 1 (Rg.sq [true, false] 9) [KI.code [true, true]] [(1, vR 0 0), (11, vB (decide (0 ≤ t.xmax) && decide (t.xmax ≤ 400)))] [LB.mk [cI t.xmin, cI t.xmax, cI t.key.kind, cI t.key.n, cF btkey_f, cS Atkey_t t.key.t.length ctkey_t, cI t.value.kind, cI t.value.n, cF btvalue_f, cS Atvalue_t t.value.t.length ctvalue_t] 60] ?_
  refine spl 11 (decide (0 ≤ t.xmax) && decide (t.xmax ≤ 400)) ?_ ?_
  ·intro hb2
   try simp only [sbb] at hb2
   refine gn 1 (Rg.sq [true, false] 11) [KI.code [true, true]] [(1, vR 0 0), (11, vL true), (13, SV.agg [cI t.key.kind, cI t.key.n, cF btkey_f, cS Atkey_t t.key.t.length ctkey_t])] [LB.mk [cI t.xmin, cI t.xmax, cI t.key.kind, cI t.key.n, cF btkey_f, cS Atkey_t t.key.t.length ctkey_t, cI t.value.kind, cI t.value.n, cF btvalue_f, cS Atvalue_t t.value.t.length ctvalue_t] 60] ?_
   refine cpk 41 [SV.agg [cI t.key.kind, cI t.key.n, cF btkey_f, cS Atkey_t t.key.t.length ctkey_t]] (some 14) (Rg.sq [true, false] 12) (.one (.bo (keyOk t.key))) (fun L w1 hs => (sKeyOk_ok (t.key) ([Value.int IntKind.i64 t.key.kind, Value.int IntKind.i64 t.key.n, Value.float FloatKind.f64 btkey_f, Value.slice Atkey_t t.key.t.length ctkey_t]) w1 (kIt_mk ‹_› hftkey_f (rdRow_ext (hs.old 0 rfl) hrtkey_t)))) ?_
   refine gn 1 (Rg.sq [true, false] 14) [KI.code [true, true]] [(1, vR 0 0), (16, vB (keyOk t.key))] [LB.mk [cI t.xmin, cI t.xmax, cI t.key.kind, cI t.key.n, cF btkey_f, cS Atkey_t t.key.t.length ctkey_t, cI t.value.kind, cI t.value.n, cF btvalue_f, cS Atvalue_t t.value.t.length ctvalue_t] 60] ?_
   refine spl 16 (keyOk t.key) ?_ ?_
   ·intro hb3
    refine gn 1 (Rg.sq [true, false] 16) [KI.code [true, true]] [(1, vR 0 0), (16, vL true), (18, SV.agg [cI t.value.kind, cI t.value.n, cF btvalue_f, cS Atvalue_t t.value.t.length ctvalue_t])] [LB.mk [cI t.xmin, cI t.xmax, cI t.key.kind, cI t.key.n, cF btkey_f, cS Atkey_t t.key.t.length ctkey_t, cI t.value.kind, cI t.value.n, cF btvalue_f, cS Atvalue_t t.value.t.length ctvalue_t] 60] ?_
    refine cpk 65 [SV.agg [cI t.value.kind, cI t.value.n, cF btvalue_f, cS Atvalue_t t.value.t.length ctvalue_t]] (some 19) (Rg.sq [true, false] 17) (.one (.bo (itemOk t.value))) (fun L w1 hs => (sItemOk_ok (t.value) ([Value.int IntKind.i64 t.value.kind, Value.int IntKind.i64 t.value.n, Value.float FloatKind.f64 btvalue_f, Value.slice Atvalue_t t.value.t.length ctvalue_t]) w1 (kIt_mk ‹_› hftvalue_f (rdRow_ext (hs.old 0 rfl) hrtvalue_t)))) ?_
    refine gn 1 (Rg.sq [true, false] 19) [KI.code [true, true]] [(1, vR 0 0), (21, vB (itemOk t.value))] [LB.mk [cI t.xmin, cI t.xmax, cI t.key.kind, cI t.key.n, cF btkey_f, cS Atkey_t t.key.t.length ctkey_t, cI t.value.kind, cI t.value.n, cF btvalue_f, cS Atvalue_t t.value.t.length ctvalue_t] 60] ?_
    refine spl 21 (itemOk t.value) ?_ ?_
    ·intro hb4
     refine gn 0 Rg.no [KI.code [true, true]] [(2, vB (t.value.kind != 0))] [] ?_
     refine rtk [vB (t.value.kind != 0)] ?_
     intro L w1 hs
     exact ⟨retB (by rw [Bool.eq_iff_iff]; simp [tupOk, valOk, *]), hs.out0⟩
    ·intro hb4
     refine gn 0 Rg.no [KI.code [true, true]] [(2, vL false)] [] ?_
     refine rtk [vL false] ?_
     intro L w1 hs
     exact ⟨retB (by simp [tupOk, valOk, *]), hs.out0⟩
   ·intro hb3
    refine gn 0 Rg.no [KI.code [true, true]] [(2, vL false)] [] ?_
    refine rtk [vL false] ?_
    intro L w1 hs
    exact ⟨retB (by simp [tupOk, valOk, *]), hs.out0⟩
  ·intro hb2
   try simp only [sbb] at hb2
   refine gn 0 Rg.no [KI.code [true, true]] [(2, vL false)] [] ?_
   refine rtk [vL false] ?_
   intro L w1 hs
   exact ⟨retB (by rw [Bool.eq_iff_iff]; simp only [tupOk, valOk, Bool.and_eq_true, Bool.or_eq_true, Bool.not_eq_true', Bool.not_eq_false', Bool.and_eq_false_imp, Bool.or_eq_false_iff, decide_eq_true_eq, decide_eq_false_iff_not, beq_iff_eq, bne_iff_ne, Bool.false_eq_true, Bool.true_eq_false, ne_eq, true_iff, false_iff, iff_true, iff_false]; omega), hs.out0⟩
 ·intro hb1
  try simp only [sbb] at hb1
  refine gn 0 Rg.no [KI.code [true, true]] [(2, vL false)] [] ?_
  refine rtk [vL false] ?_
  intro L w1 hs
  exact ⟨retB (by rw [Bool.eq_iff_iff]; simp only [tupOk, valOk, Bool.and_eq_true, Bool.or_eq_true, Bool.not_eq_true', Bool.not_eq_false', Bool.and_eq_false_imp, Bool.or_eq_false_iff, decide_eq_true_eq, decide_eq_false_iff_not, beq_iff_eq, bne_iff_ne, Bool.false_eq_true, Bool.true_eq_false, ne_eq, true_iff, false_iff, iff_true, iff_false]; omega), hs.out0⟩
end Go.Proofs.YtgleoebogikooaaGreat.Dk
