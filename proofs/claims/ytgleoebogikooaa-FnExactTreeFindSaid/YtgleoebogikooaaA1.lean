/- Walks of functions of the program: what each call returns and what it leaves in memory. Conditions: those that each theorem names. -/
import Derived.Test.YtgleoebogikooaaProg
import Derived.Test.YtgleoebogikooaaSxC
namespace Go.Proofs.Ytgleoebogikooaa.Dk
set_option linter.unusedVariables false
set_option linter.unusedSimpArgs false
open Go.Proofs.Ytgleoebogikooaa.Sx Go.Proofs Go.RowKit
set_option maxRecDepth 100000
set_option maxHeartbeats 1000000
theorem mixed : Try.prog.follows .mixedOrders = true := by kernel_rfl
theorem wrap_succ {i : Nat} (h : i < 9223372036854775807) : IntKind.i64.wrap ((i : Int) + 1) = ((i + 1 : Nat) : Int) := by
  rw [IntKind.wrap_i64]; omega
theorem set_fill {α : Type} (ys : List α) (z : α) {i : Nat} (hi : i < ys.length) : (ys.take i ++ List.replicate (ys.length - i) z).set i ys[i] = ys.take (i + 1) ++ List.replicate (ys.length - (i + 1)) z := by
  have hl : (ys.take i).length = i := by simp; omega
  rw [List.set_append_right _ _ (by omega), hl, Nat.sub_self, show ys.length - i = (ys.length - (i + 1)) + 1 by omega, List.replicate_succ, List.set_cons_zero, List.take_succ_eq_append_getElem hi, List.append_assoc]
  rfl
structure It where
  kind : Int
  n : Int
  f : Nat
  t : List Int
def kIt : Kn It := kVia (fun x => (x.kind, x.n, x.f, x.t)) (kPair kI64 (kPair kI64 (kPair kFc (kRow 5 kU8))))
theorem kIt_inv {h : Hp} {x : It} {cs : List Value} (hx : kIt.rd h x cs) : ∃ (bf : Nat) (At : Option Addr) (ct : Nat), cs = [.int .i64 x.kind, .int .i64 x.n, .float .f64 bf, .slice At x.t.length ct] ∧ bf < 18446744073709551616 ∧ canonF bf = x.f ∧ rdRow kU8 h x.t (.slice At x.t.length ct) := by
  obtain ⟨p0, q0, rfl, r0, p1, q1, rfl, r1, p2, q2, rfl, r2, r3⟩ := hx
  obtain rfl := r0
  obtain rfl := r1
  obtain ⟨bf, rfl, hbf, hff⟩ := r2
  obtain ⟨v3, rfl, hrt⟩ := r3
  obtain ⟨At, ct, rfl⟩ := rdRow_form hrt
  exact ⟨bf, At, ct, rfl, hbf, hff, hrt⟩
theorem kIt_mk {h : Hp} {kind : Int} {n : Int} {f : Nat} {t : List Int} {bf : Nat} {vt : Value} (hbf : bf < 18446744073709551616) (hff : canonF bf = f) (hrt : rdRow kU8 h t vt) : kIt.rd h ⟨kind, n, f, t⟩ [.int .i64 kind, .int .i64 n, .float .f64 bf, vt] :=
  ⟨[.int .i64 kind], [.int .i64 n, .float .f64 bf, vt], rfl, rfl, ⟨[.int .i64 n], [.float .f64 bf, vt], rfl, rfl, ⟨[.float .f64 bf], [vt], rfl, ⟨_, rfl, hbf, hff⟩, ⟨_, rfl, hrt⟩⟩⟩⟩
theorem kIt_at {h : Hp} {xs : List It} {a : Addr} {n c : Nat} (hr : rdRow kIt h xs (.slice (some a) n c)) {i : Nat} (hi : i < xs.length) : ∃ (bf : Nat) (At : Option Addr) (ct : Nat), bf < 18446744073709551616 ∧ canonF bf = xs[i].f ∧ rdRow kU8 h (xs[i].t) (.slice At (xs[i].t).length ct) ∧ ∀ j u, [.int .i64 xs[i].kind, .int .i64 xs[i].n, .float .f64 bf, .slice At (xs[i].t).length ct][j]? = some u → cellH h ((a.add (i * 4)).add j) = some u := by
  obtain ⟨cs, h1, h2⟩ := rd_at hr (List.getElem?_eq_getElem hi)
  obtain ⟨bf, At, ct, rfl, hbf, hff, hrt⟩ := kIt_inv h1
  exact ⟨bf, At, ct, hbf, hff, hrt, h2⟩

structure En where
  key : It
  id : Int
def kEn : Kn En := kVia (fun x => (x.key, x.id)) (kPair kIt kI64)
theorem kEn_inv {h : Hp} {x : En} {cs : List Value} (hx : kEn.rd h x cs) : ∃ (bkey_f : Nat) (Akey_t : Option Addr) (ckey_t : Nat), cs = [.int .i64 x.key.kind, .int .i64 x.key.n, .float .f64 bkey_f, .slice Akey_t x.key.t.length ckey_t, .int .i64 x.id] ∧ bkey_f < 18446744073709551616 ∧ canonF bkey_f = x.key.f ∧ rdRow kU8 h x.key.t (.slice Akey_t x.key.t.length ckey_t) := by
  obtain ⟨p0, q0, rfl, r0, r1⟩ := hx
  obtain ⟨bkey_f, Akey_t, ckey_t, rfl, hbkey_f, hfkey_f, hrkey_t⟩ := kIt_inv r0
  obtain rfl := r1
  exact ⟨bkey_f, Akey_t, ckey_t, rfl, hbkey_f, hfkey_f, hrkey_t⟩
theorem kEn_mk {h : Hp} {key_kind : Int} {key_n : Int} {key_f : Nat} {key_t : List Int} {id : Int} {bkey_f : Nat} {vkey_t : Value} (hbkey_f : bkey_f < 18446744073709551616) (hfkey_f : canonF bkey_f = key_f) (hrkey_t : rdRow kU8 h key_t vkey_t) : kEn.rd h ⟨⟨key_kind, key_n, key_f, key_t⟩, id⟩ [.int .i64 key_kind, .int .i64 key_n, .float .f64 bkey_f, vkey_t, .int .i64 id] :=
  ⟨[.int .i64 key_kind, .int .i64 key_n, .float .f64 bkey_f, vkey_t], [.int .i64 id], rfl, (kIt_mk hbkey_f hfkey_f hrkey_t), rfl⟩
theorem kEn_at {h : Hp} {xs : List En} {a : Addr} {n c : Nat} (hr : rdRow kEn h xs (.slice (some a) n c)) {i : Nat} (hi : i < xs.length) : ∃ (bkey_f : Nat) (Akey_t : Option Addr) (ckey_t : Nat), bkey_f < 18446744073709551616 ∧ canonF bkey_f = xs[i].key.f ∧ rdRow kU8 h (xs[i].key.t) (.slice Akey_t (xs[i].key.t).length ckey_t) ∧ ∀ j u, [.int .i64 xs[i].key.kind, .int .i64 xs[i].key.n, .float .f64 bkey_f, .slice Akey_t (xs[i].key.t).length ckey_t, .int .i64 xs[i].id][j]? = some u → cellH h ((a.add (i * 5)).add j) = some u := by
  obtain ⟨cs, h1, h2⟩ := rd_at hr (List.getElem?_eq_getElem hi)
  obtain ⟨bkey_f, Akey_t, ckey_t, rfl, hbkey_f, hfkey_f, hrkey_t⟩ := kEn_inv h1
  exact ⟨bkey_f, Akey_t, ckey_t, hbkey_f, hfkey_f, hrkey_t, h2⟩

structure Nd where
  leaf : Bool
  entries : List En
  kids : List Int
def kNd : Kn Nd := kVia (fun x => (x.leaf, x.entries, x.kids)) (kPair kBool (kPair (kRow 101 kEn) (kRow 3 kI64)))
theorem kNd_inv {h : Hp} {x : Nd} {cs : List Value} (hx : kNd.rd h x cs) : ∃ (Aentries : Option Addr) (centries : Nat) (Akids : Option Addr) (ckids : Nat), cs = [.bool x.leaf, .slice Aentries x.entries.length centries, .slice Akids x.kids.length ckids] ∧ rdRow kEn h x.entries (.slice Aentries x.entries.length centries) ∧ rdRow kI64 h x.kids (.slice Akids x.kids.length ckids) := by
  obtain ⟨p0, q0, rfl, r0, p1, q1, rfl, r1, r2⟩ := hx
  obtain rfl := r0
  obtain ⟨v1, rfl, hrentries⟩ := r1
  obtain ⟨Aentries, centries, rfl⟩ := rdRow_form hrentries
  obtain ⟨v2, rfl, hrkids⟩ := r2
  obtain ⟨Akids, ckids, rfl⟩ := rdRow_form hrkids
  exact ⟨Aentries, centries, Akids, ckids, rfl, hrentries, hrkids⟩
theorem kNd_mk {h : Hp} {leaf : Bool} {entries : List En} {kids : List Int} {ventries : Value} {vkids : Value} (hrentries : rdRow kEn h entries ventries) (hrkids : rdRow kI64 h kids vkids) : kNd.rd h ⟨leaf, entries, kids⟩ [.bool leaf, ventries, vkids] :=
  ⟨[.bool leaf], [ventries, vkids], rfl, rfl, ⟨[ventries], [vkids], rfl, ⟨_, rfl, hrentries⟩, ⟨_, rfl, hrkids⟩⟩⟩
theorem kNd_at {h : Hp} {xs : List Nd} {a : Addr} {n c : Nat} (hr : rdRow kNd h xs (.slice (some a) n c)) {i : Nat} (hi : i < xs.length) : ∃ (Aentries : Option Addr) (centries : Nat) (Akids : Option Addr) (ckids : Nat), rdRow kEn h (xs[i].entries) (.slice Aentries (xs[i].entries).length centries) ∧ rdRow kI64 h (xs[i].kids) (.slice Akids (xs[i].kids).length ckids) ∧ ∀ j u, [.bool xs[i].leaf, .slice Aentries (xs[i].entries).length centries, .slice Akids (xs[i].kids).length ckids][j]? = some u → cellH h ((a.add (i * 3)).add j) = some u := by
  obtain ⟨cs, h1, h2⟩ := rd_at hr (List.getElem?_eq_getElem hi)
  obtain ⟨Aentries, centries, Akids, ckids, rfl, hrentries, hrkids⟩ := kNd_inv h1
  exact ⟨Aentries, centries, Akids, ckids, hrentries, hrkids, h2⟩

structure Tr where
  nodes : List Nd
  root : Int
def kTr : Kn Tr := kVia (fun x => (x.nodes, x.root)) (kPair (kRow 96 kNd) kI64)
theorem kTr_inv {h : Hp} {x : Tr} {cs : List Value} (hx : kTr.rd h x cs) : ∃ (Anodes : Option Addr) (cnodes : Nat), cs = [.slice Anodes x.nodes.length cnodes, .int .i64 x.root] ∧ rdRow kNd h x.nodes (.slice Anodes x.nodes.length cnodes) := by
  obtain ⟨p0, q0, rfl, r0, r1⟩ := hx
  obtain ⟨v0, rfl, hrnodes⟩ := r0
  obtain ⟨Anodes, cnodes, rfl⟩ := rdRow_form hrnodes
  obtain rfl := r1
  exact ⟨Anodes, cnodes, rfl, hrnodes⟩
theorem kTr_mk {h : Hp} {nodes : List Nd} {root : Int} {vnodes : Value} (hrnodes : rdRow kNd h nodes vnodes) : kTr.rd h ⟨nodes, root⟩ [vnodes, .int .i64 root] :=
  ⟨[vnodes], [.int .i64 root], rfl, ⟨_, rfl, hrnodes⟩, rfl⟩
theorem kTr_at {h : Hp} {xs : List Tr} {a : Addr} {n c : Nat} (hr : rdRow kTr h xs (.slice (some a) n c)) {i : Nat} (hi : i < xs.length) : ∃ (Anodes : Option Addr) (cnodes : Nat), rdRow kNd h (xs[i].nodes) (.slice Anodes (xs[i].nodes).length cnodes) ∧ ∀ j u, [.slice Anodes (xs[i].nodes).length cnodes, .int .i64 xs[i].root][j]? = some u → cellH h ((a.add (i * 2)).add j) = some u := by
  obtain ⟨cs, h1, h2⟩ := rd_at hr (List.getElem?_eq_getElem hi)
  obtain ⟨Anodes, cnodes, rfl, hrnodes⟩ := kTr_inv h1
  exact ⟨Anodes, cnodes, hrnodes, h2⟩

theorem within_ok (n : Int) (lo : Int) (hi : Int) (w : World) :
    Calls Try.prog 55 #[.int .i64 n, .int .i64 lo, .int .i64 hi] w fun e w' => e = .returned (.bool (decide (lo ≤ n) && decide (n ≤ hi))) ∧ Below w.heap.size w w' := by
  refine enter (args := [.one (.v (.int .i64 n)), .one (.v (.int .i64 lo)), .one (.v (.int .i64 hi))]) Try.func55 (c := bodyOf Try.f55) rfl rfl (start_LOK _) (start_old w) ?_
  refine go mixed 2000 [0, 2, 10] 0 (St.mk (Rg.sq [true, false] 4) [KI.code [true, true]] [(0, vI n), (2, vI hi), (10, vB (decide (lo ≤ n)))] []) (by kernel_rfl) (by kernel_rfl) (by kernel_rfl) ?_
  refine split_at 10 (b := decide (lo ≤ n)) (by kernel_rfl) (by kernel_rfl) ?_ ?_
  · intro hb1
    replace hb1 := of_decide_eq_true hb1
    refine go mixed 2000 [6] 0 (St.mk Rg.no [KI.code [true, true]] [(6, vB (decide (n ≤ hi)))] []) (by kernel_rfl) (by kernel_rfl) (by kernel_rfl) ?_
    refine ret_ok (vs := [vB (decide (n ≤ hi))]) (by kernel_rfl) ?_
    intro L w1 hs
    exact ⟨retB (by rw [Bool.eq_iff_iff]; simp only [Bool.and_eq_true, Bool.or_eq_true, Bool.not_eq_true', Bool.not_eq_false', Bool.and_eq_false_imp, Bool.or_eq_false_iff, decide_eq_true_eq, decide_eq_false_iff_not, beq_iff_eq, bne_iff_ne, Bool.false_eq_true, Bool.true_eq_false, ne_eq, true_iff, false_iff, iff_true, iff_false]; omega), hs.out0⟩
  · intro hb1
    replace hb1 := of_decide_eq_false hb1
    refine go mixed 2000 [6] 0 (St.mk Rg.no [KI.code [true, true]] [(6, vL false)] []) (by kernel_rfl) (by kernel_rfl) (by kernel_rfl) ?_
    refine ret_ok (vs := [vL false]) (by kernel_rfl) ?_
    intro L w1 hs
    exact ⟨retB (by rw [Bool.eq_iff_iff]; simp only [Bool.and_eq_true, Bool.or_eq_true, Bool.not_eq_true', Bool.not_eq_false', Bool.and_eq_false_imp, Bool.or_eq_false_iff, decide_eq_true_eq, decide_eq_false_iff_not, beq_iff_eq, bne_iff_ne, Bool.false_eq_true, Bool.true_eq_false, ne_eq, true_iff, false_iff, iff_true, iff_false]; omega), hs.out0⟩

theorem l5in_ok (n : Int) (lo : Int) (hi : Int) (w : World) :
    Calls Try.prog 85 #[.int .i64 n, .int .i64 lo, .int .i64 hi] w fun e w' => e = .returned (.bool (decide (lo ≤ n) && decide (n ≤ hi))) ∧ Below w.heap.size w w' := by
  refine enter (args := [.one (.v (.int .i64 n)), .one (.v (.int .i64 lo)), .one (.v (.int .i64 hi))]) Try.func85 (c := bodyOf Try.f85) rfl rfl (start_LOK _) (start_old w) ?_
  refine go mixed 2000 [0, 2, 10] 0 (St.mk (Rg.sq [true, false] 4) [KI.code [true, true]] [(0, vI n), (2, vI hi), (10, vB (decide (n ≥ lo)))] []) (by kernel_rfl) (by kernel_rfl) (by kernel_rfl) ?_
  refine split_at 10 (b := decide (n ≥ lo)) (by kernel_rfl) (by kernel_rfl) ?_ ?_
  · intro hb1
    replace hb1 := of_decide_eq_true hb1
    refine go mixed 2000 [6] 0 (St.mk Rg.no [KI.code [true, true]] [(6, vB (decide (n ≤ hi)))] []) (by kernel_rfl) (by kernel_rfl) (by kernel_rfl) ?_
    refine ret_ok (vs := [vB (decide (n ≤ hi))]) (by kernel_rfl) ?_
    intro L w1 hs
    exact ⟨retB (by rw [Bool.eq_iff_iff]; simp only [Bool.and_eq_true, Bool.or_eq_true, Bool.not_eq_true', Bool.not_eq_false', Bool.and_eq_false_imp, Bool.or_eq_false_iff, decide_eq_true_eq, decide_eq_false_iff_not, beq_iff_eq, bne_iff_ne, Bool.false_eq_true, Bool.true_eq_false, ne_eq, true_iff, false_iff, iff_true, iff_false]; omega), hs.out0⟩
  · intro hb1
    replace hb1 := of_decide_eq_false hb1
    refine go mixed 2000 [6] 0 (St.mk Rg.no [KI.code [true, true]] [(6, vL false)] []) (by kernel_rfl) (by kernel_rfl) (by kernel_rfl) ?_
    refine ret_ok (vs := [vL false]) (by kernel_rfl) ?_
    intro L w1 hs
    exact ⟨retB (by rw [Bool.eq_iff_iff]; simp only [Bool.and_eq_true, Bool.or_eq_true, Bool.not_eq_true', Bool.not_eq_false', Bool.and_eq_false_imp, Bool.or_eq_false_iff, decide_eq_true_eq, decide_eq_false_iff_not, beq_iff_eq, bne_iff_ne, Bool.false_eq_true, Bool.true_eq_false, ne_eq, true_iff, false_iff, iff_true, iff_false]; omega), hs.out0⟩

def cmpI (a b : Int) : Int := if a < b then -1 else if b < a then 1 else 0
theorem isNaNi_ok (a : Int) (w : World) :
    Calls Try.prog 178 #[.int .i64 a] w fun e w' => e = .returned (.bool false) ∧ Below w.heap.size w w' := by
  refine enter (args := [.one (.v (.int .i64 a))]) Try.func178 (c := bodyOf Try.f178) rfl rfl (start_LOK _) (start_old w) ?_
  refine go mixed 2000 [2] 0 (St.mk Rg.no [KI.code [true, true]] [(2, vB (a != a))] []) (by kernel_rfl) (by kernel_rfl) (by kernel_rfl) ?_
  refine ret_ok (vs := [vB (a != a)]) (by kernel_rfl) ?_
  intro L w1 hs
  exact ⟨retB (by simp [*]), hs.out0⟩

theorem cmpI_ok (a : Int) (b : Int) (w : World) :
    Calls Try.prog 143 #[.int .i64 a, .int .i64 b] w fun e w' => e = .returned (.int .i64 (cmpI a b)) ∧ Below w.heap.size w w' := by
  refine enter (args := [.one (.v (.int .i64 a)), .one (.v (.int .i64 b))]) Try.func143 (c := bodyOf Try.f143) rfl rfl (start_LOK _) (start_old w) ?_
  refine go mixed 2000 [0, 1, 7] 0 (St.mk (Rg.sq [true, false] 1) [KI.code [true, true]] [(0, vI a), (1, vI b), (7, vI a)] []) (by kernel_rfl) (by kernel_rfl) (by kernel_rfl) ?_
  refine call_pure true (by kernel_rfl : atC _ _ _ true = some (178, [vI a], some 8, Rg.sq [true, false] 2)) (by kernel_rfl) (.one (.bo (false))) (fun L w1 hs => (Go.Proofs.Ytgleoebogikooaa.Dk.isNaNi_ok (a) w1)) ?_
  refine go mixed 2000 [0, 1, 5, 9] 0 (St.mk (Rg.sq (bitL 3 3) 1) [kCd (bitL 3 7)] [(0, vI a), (1, vI b), (5, vB false), (9, vI b)] []) (by kernel_rfl) (by kernel_rfl) (by kernel_rfl) ?_
  refine call_pure true (by kernel_rfl : atC _ _ _ true = some (178, [vI b], some 10, Rg.sq (bitL 3 3) 2)) (by kernel_rfl) (.one (.bo (false))) (fun L w1 hs => (Go.Proofs.Ytgleoebogikooaa.Dk.isNaNi_ok (b) w1)) ?_
  refine go mixed 2000 [0, 1, 6, 11] 0 (St.mk Rg.no [kCd (bitL 5 23), kCd (bitL 4 15)] [(0, vI a), (1, vI b), (6, vB false), (11, vB false)] []) (by kernel_rfl) (by kernel_rfl) (by kernel_rfl) ?_
  refine lit_at 11 (b := false) (by kernel_rfl) ?_
  refine go mixed 2000 [0, 1, 13] 0 (St.mk Rg.no [kCd (bitL 6 47), kCd (bitL 5 31)] [(0, vI a), (1, vI b), (13, vB false)] []) (by kernel_rfl) (by kernel_rfl) (by kernel_rfl) ?_
  refine lit_at 13 (b := false) (by kernel_rfl) ?_
  refine go mixed 2000 [0, 1, 16] 0 (St.mk Rg.no [kCd (bitL 7 95), kCd (bitL 6 63)] [(0, vI a), (1, vI b), (16, vB (decide (a < b)))] []) (by kernel_rfl) (by kernel_rfl) (by kernel_rfl) ?_
  refine split_at 16 (b := decide (a < b)) (by kernel_rfl) (by kernel_rfl) ?_ ?_
  · intro hb1
    replace hb1 := of_decide_eq_true hb1
    refine go mixed 2000 [4] 0 (St.mk Rg.no [kCd (bitL 9 351), kCd (bitL 6 63)] [(4, vI (-1))] []) (by kernel_rfl) (by kernel_rfl) (by kernel_rfl) ?_
    refine ret_ok (vs := [vI (-1)]) (by kernel_rfl) ?_
    intro L w1 hs
    exact ⟨retI (by simp [cmpI, *]), hs.out0⟩
  · intro hb1
    replace hb1 := of_decide_eq_false hb1
    refine go mixed 2000 [19] 0 (St.mk Rg.no [kCd (bitL 8 191), kCd (bitL 7 127)] [(19, vB (decide (a > b)))] []) (by kernel_rfl) (by kernel_rfl) (by kernel_rfl) ?_
    refine split_at 19 (b := decide (a > b)) (by kernel_rfl) (by kernel_rfl) ?_ ?_
    · intro hb2
      replace hb2 := of_decide_eq_true hb2
      refine go mixed 2000 [4] 0 (St.mk Rg.no [kCd (bitL 10 703), kCd (bitL 7 127)] [(4, vI 1)] []) (by kernel_rfl) (by kernel_rfl) (by kernel_rfl) ?_
      refine ret_ok (vs := [vI 1]) (by kernel_rfl) ?_
      intro L w1 hs
      exact ⟨retI (by simp [cmpI, *]), hs.out0⟩
    · intro hb2
      replace hb2 := of_decide_eq_false hb2
      refine go mixed 2000 [4] 0 (St.mk Rg.no [kCd (bitL 8 255)] [(4, vI 0)] []) (by kernel_rfl) (by kernel_rfl) (by kernel_rfl) ?_
      refine ret_ok (vs := [vI 0]) (by kernel_rfl) ?_
      intro L w1 hs
      exact ⟨retI (by simp [cmpI, *]), hs.out0⟩

theorem isNaNu_ok (a : Int) (w : World) :
    Calls Try.prog 189 #[.int .u64 a] w fun e w' => e = .returned (.bool false) ∧ Below w.heap.size w w' := by
  refine enter (args := [.one (.v (.int .u64 a))]) Try.func189 (c := bodyOf Try.f189) rfl rfl (start_LOK _) (start_old w) ?_
  refine go mixed 2000 [2] 0 (St.mk Rg.no [KI.code [true, true]] [(2, vB (a != a))] []) (by kernel_rfl) (by kernel_rfl) (by kernel_rfl) ?_
  refine ret_ok (vs := [vB (a != a)]) (by kernel_rfl) ?_
  intro L w1 hs
  exact ⟨retB (by simp [*]), hs.out0⟩

theorem cmpU_ok (a : Int) (b : Int) (w : World) :
    Calls Try.prog 179 #[.int .u64 a, .int .u64 b] w fun e w' => e = .returned (.int .i64 (cmpI a b)) ∧ Below w.heap.size w w' := by
  refine enter (args := [.one (.v (.int .u64 a)), .one (.v (.int .u64 b))]) Try.func179 (c := bodyOf Try.f179) rfl rfl (start_LOK _) (start_old w) ?_
  refine go mixed 2000 [0, 1, 7] 0 (St.mk (Rg.sq [true, false] 1) [KI.code [true, true]] [(0, SV.one (SC.v (Value.int IntKind.u64 a))), (1, SV.one (SC.v (Value.int IntKind.u64 b))), (7, SV.one (SC.v (Value.int IntKind.u64 a)))] []) (by kernel_rfl) (by kernel_rfl) (by kernel_rfl) ?_
  refine call_pure true (by kernel_rfl : atC _ _ _ true = some (189, [SV.one (SC.v (Value.int IntKind.u64 a))], some 8, Rg.sq [true, false] 2)) (by kernel_rfl) (.one (.bo (false))) (fun L w1 hs => (Go.Proofs.Ytgleoebogikooaa.Dk.isNaNu_ok (a) w1)) ?_
  refine go mixed 2000 [0, 1, 5, 9] 0 (St.mk (Rg.sq (bitL 3 3) 1) [kCd (bitL 3 7)] [(0, SV.one (SC.v (Value.int IntKind.u64 a))), (1, SV.one (SC.v (Value.int IntKind.u64 b))), (5, vB false), (9, SV.one (SC.v (Value.int IntKind.u64 b)))] []) (by kernel_rfl) (by kernel_rfl) (by kernel_rfl) ?_
  refine call_pure true (by kernel_rfl : atC _ _ _ true = some (189, [SV.one (SC.v (Value.int IntKind.u64 b))], some 10, Rg.sq (bitL 3 3) 2)) (by kernel_rfl) (.one (.bo (false))) (fun L w1 hs => (Go.Proofs.Ytgleoebogikooaa.Dk.isNaNu_ok (b) w1)) ?_
  refine go mixed 2000 [0, 1, 6, 11] 0 (St.mk Rg.no [kCd (bitL 5 23), kCd (bitL 4 15)] [(0, SV.one (SC.v (Value.int IntKind.u64 a))), (1, SV.one (SC.v (Value.int IntKind.u64 b))), (6, vB false), (11, vB false)] []) (by kernel_rfl) (by kernel_rfl) (by kernel_rfl) ?_
  refine lit_at 11 (b := false) (by kernel_rfl) ?_
  refine go mixed 2000 [0, 1, 13] 0 (St.mk Rg.no [kCd (bitL 6 47), kCd (bitL 5 31)] [(0, SV.one (SC.v (Value.int IntKind.u64 a))), (1, SV.one (SC.v (Value.int IntKind.u64 b))), (13, vB false)] []) (by kernel_rfl) (by kernel_rfl) (by kernel_rfl) ?_
  refine lit_at 13 (b := false) (by kernel_rfl) ?_
  refine go mixed 2000 [0, 1, 16] 0 (St.mk Rg.no [kCd (bitL 7 95), kCd (bitL 6 63)] [(0, SV.one (SC.v (Value.int IntKind.u64 a))), (1, SV.one (SC.v (Value.int IntKind.u64 b))), (16, vB (decide (a < b)))] []) (by kernel_rfl) (by kernel_rfl) (by kernel_rfl) ?_
  refine split_at 16 (b := decide (a < b)) (by kernel_rfl) (by kernel_rfl) ?_ ?_
  · intro hb1
    replace hb1 := of_decide_eq_true hb1
    refine go mixed 2000 [4] 0 (St.mk Rg.no [kCd (bitL 9 351), kCd (bitL 6 63)] [(4, vI (-1))] []) (by kernel_rfl) (by kernel_rfl) (by kernel_rfl) ?_
    refine ret_ok (vs := [vI (-1)]) (by kernel_rfl) ?_
    intro L w1 hs
    exact ⟨retI (by simp [cmpI, *]), hs.out0⟩
  · intro hb1
    replace hb1 := of_decide_eq_false hb1
    refine go mixed 2000 [19] 0 (St.mk Rg.no [kCd (bitL 8 191), kCd (bitL 7 127)] [(19, vB (decide (a > b)))] []) (by kernel_rfl) (by kernel_rfl) (by kernel_rfl) ?_
    refine split_at 19 (b := decide (a > b)) (by kernel_rfl) (by kernel_rfl) ?_ ?_
    · intro hb2
      replace hb2 := of_decide_eq_true hb2
      refine go mixed 2000 [4] 0 (St.mk Rg.no [kCd (bitL 10 703), kCd (bitL 7 127)] [(4, vI 1)] []) (by kernel_rfl) (by kernel_rfl) (by kernel_rfl) ?_
      refine ret_ok (vs := [vI 1]) (by kernel_rfl) ?_
      intro L w1 hs
      exact ⟨retI (by simp [cmpI, *]), hs.out0⟩
    · intro hb2
      replace hb2 := of_decide_eq_false hb2
      refine go mixed 2000 [4] 0 (St.mk Rg.no [kCd (bitL 8 255)] [(4, vI 0)] []) (by kernel_rfl) (by kernel_rfl) (by kernel_rfl) ?_
      refine ret_ok (vs := [vI 0]) (by kernel_rfl) ?_
      intro L w1 hs
      exact ⟨retI (by simp [cmpI, *]), hs.out0⟩

end Go.Proofs.Ytgleoebogikooaa.Dk
