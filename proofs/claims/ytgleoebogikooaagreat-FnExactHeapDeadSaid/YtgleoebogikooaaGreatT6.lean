/- Walks of functions of the program: what each call returns and what it leaves in memory. Conditions: those that each theorem names. -/
import Derived.Test.YtgleoebogikooaaGreatT5
import Derived.Test.YtgleoebogikooaaGreatY2
namespace Go.Proofs.YtgleoebogikooaaGreat.Dk
set_option linter.unusedVariables false
set_option linter.unusedSimpArgs false
open Go.Proofs.YtgleoebogikooaaGreat.Sx Go.Proofs Go.RowKit
set_option maxRecDepth 100000
set_option maxHeartbeats 1000000
theorem kIt_shape {h : Hp} {S : Nat → Prop} {x : It} {cs : List Value} (ho : kIt.ow h S x cs) : ∃ b A c, cs = [.int .i64 x.kind, .int .i64 x.n, .float .f64 b, .slice A x.t.length c] ∧ b < 18446744073709551616 ∧ canonF b = x.f ∧ (rowA 5 kU8 x.t (.slice A x.t.length c)).holds h S := by
 obtain ⟨a1, a2, rfl, T1, T2, t1, t2, _, ra, a3, a4, rfl, U1, U2, u1, u2, _, rb, a5, a6, rfl, V1, V2, v1, v2, _, ⟨b, rb1, rb2, rb3⟩, v, rv, hrow⟩ := ho
 have ra : a1 = [.int .i64 x.kind] := ra
 have rb : a3 = [.int .i64 x.n] := rb
 obtain ⟨A, c, hv, hrest⟩ := id hrow
 subst ra rb rb1 rv hv
 exact ⟨b, A, c, rfl, rb2, rb3, (rowA 5 kU8 x.t _).mono (fun b hb => t2 b (u2 b (v2 b hb))) (rowA_holds.2 hrow)⟩
theorem kRw_shape {h : Hp} {S : Nat → Prop} {x : Rw} {cs : List Value} (ho : kRw.ow h S x cs) : ∃ b1 A1 c1 b2 A2 c2, cs = [.int .i64 x.page, .int .i64 x.slot, .int .i64 x.tuple.xmin, .int .i64 x.tuple.xmax, .int .i64 x.tuple.key.kind, .int .i64 x.tuple.key.n, .float .f64 b1, .slice A1 x.tuple.key.t.length c1, .int .i64 x.tuple.value.kind, .int .i64 x.tuple.value.n, .float .f64 b2, .slice A2 x.tuple.value.t.length c2] ∧ b1 < 18446744073709551616 ∧ canonF b1 = x.tuple.key.f ∧ b2 < 18446744073709551616 ∧ canonF b2 = x.tuple.value.f ∧ sepL [rowA 5 kU8 x.tuple.value.t (.slice A2 x.tuple.value.t.length c2), rowA 5 kU8 x.tuple.key.t (.slice A1 x.tuple.key.t.length c1)] h S := by
 obtain ⟨p1, p2, rfl, P1, P2, p1s, p2s, _, rp, p3, p4, rfl, Q1, Q2, q1s, q2s, _, rq, a1, a2, rfl, T1, T2, t1, t2, _, ra, a3, a4, rfl, U1, U2, u1, u2, _, rb, a5, a6, rfl, V1, V2, v1, v2, vd, hk, hv⟩ := ho
 have rp : p1 = [.int .i64 x.page] := rp
 have rq : p3 = [.int .i64 x.slot] := rq
 have ra : a1 = [.int .i64 x.tuple.xmin] := ra
 have rb : a3 = [.int .i64 x.tuple.xmax] := rb
 obtain ⟨b1, A1, c1, rfl, k1, k2, k3⟩ := kIt_shape hk
 obtain ⟨b2, A2, c2, rfl, l1, l2, l3⟩ := kIt_shape hv
 subst rp rq ra rb
 have sub : ∀ b, U2 b → S b := fun b hb => p2s b (q2s b (t2 b (u2 b hb)))
 exact ⟨b1, A1, c1, b2, A2, c2, rfl, k1, k2, l1, l2, V2, V1, fun b hb => sub b (v2 b hb), fun b hb => sub b (v1 b hb), fun b h2 h1 => vd b h1 h2, l3, V1, fun _ => False, fun _ h => h, fun _ h => h.elim, fun _ _ h => h, k3, trivial⟩
theorem h_el_Rw {C : Cx} {F : List HA} {st : St} {x : Rw} {cs : List Value} (h : ∀ b1 A1 c1 b2 A2 c2, cs = [.int .i64 x.page, .int .i64 x.slot, .int .i64 x.tuple.xmin, .int .i64 x.tuple.xmax, .int .i64 x.tuple.key.kind, .int .i64 x.tuple.key.n, .float .f64 b1, .slice A1 x.tuple.key.t.length c1, .int .i64 x.tuple.value.kind, .int .i64 x.tuple.value.n, .float .f64 b2, .slice A2 x.tuple.value.t.length c2] → b1 < 18446744073709551616 → canonF b1 = x.tuple.key.f → b2 < 18446744073709551616 → canonF b2 = x.tuple.value.f → Holds C ([rowA 5 kU8 x.tuple.value.t (.slice A2 x.tuple.value.t.length c2), rowA 5 kU8 x.tuple.key.t (.slice A1 x.tuple.key.t.length c1)] ++ F) st) : Holds C (elA kRw x cs :: F) st := by
 intro L w1 w a hs ht hr
 obtain ⟨henv, hl, S, hS, S1, S2, h1, h2, hd, hel, hF⟩ := hs
 obtain ⟨b1, A1, c1, b2, A2, c2, e1, e2, e3, e4, e5, hrow⟩ := kRw_shape hel
 exact h b1 A1 c1 b2 A2 c2 e1 e2 e3 e4 e5 L w1 w a ⟨henv, hl, S, hS, sepL_append.2 ⟨S1, S2, h1, h2, hd, hrow, hF⟩⟩ ht hr
theorem kRw_put0 {h : Hp} {S : Nat → Prop} {x : Rw} {cs : List Value} {k : Int} (ho : kRw.ow h S x cs) : kRw.ow h S ⟨k, x.slot, ⟨x.tuple.xmin, x.tuple.xmax, ⟨x.tuple.key.kind, x.tuple.key.n, x.tuple.key.f, x.tuple.key.t⟩, ⟨x.tuple.value.kind, x.tuple.value.n, x.tuple.value.f, x.tuple.value.t⟩⟩⟩ (splice cs 0 [.int .i64 k]) := by
 obtain ⟨b1, A1, c1, b2, A2, c2, rfl, h1, h2, h3, h4, h5⟩ := kRw_shape ho
 exact kRw_own (x := ⟨k, x.slot, ⟨x.tuple.xmin, x.tuple.xmax, ⟨x.tuple.key.kind, x.tuple.key.n, x.tuple.key.f, x.tuple.key.t⟩, ⟨x.tuple.value.kind, x.tuple.value.n, x.tuple.value.f, x.tuple.value.t⟩⟩⟩) h1 h2 h3 h4 h5
theorem kRw_put1 {h : Hp} {S : Nat → Prop} {x : Rw} {cs : List Value} {k : Int} (ho : kRw.ow h S x cs) : kRw.ow h S ⟨x.page, k, ⟨x.tuple.xmin, x.tuple.xmax, ⟨x.tuple.key.kind, x.tuple.key.n, x.tuple.key.f, x.tuple.key.t⟩, ⟨x.tuple.value.kind, x.tuple.value.n, x.tuple.value.f, x.tuple.value.t⟩⟩⟩ (splice cs 1 [.int .i64 k]) := by
 obtain ⟨b1, A1, c1, b2, A2, c2, rfl, h1, h2, h3, h4, h5⟩ := kRw_shape ho
 exact kRw_own (x := ⟨x.page, k, ⟨x.tuple.xmin, x.tuple.xmax, ⟨x.tuple.key.kind, x.tuple.key.n, x.tuple.key.f, x.tuple.key.t⟩, ⟨x.tuple.value.kind, x.tuple.value.n, x.tuple.value.f, x.tuple.value.t⟩⟩⟩) h1 h2 h3 h4 h5
theorem kRw_put2 {h : Hp} {S : Nat → Prop} {x : Rw} {cs : List Value} {k : Int} (ho : kRw.ow h S x cs) : kRw.ow h S ⟨x.page, x.slot, ⟨k, x.tuple.xmax, ⟨x.tuple.key.kind, x.tuple.key.n, x.tuple.key.f, x.tuple.key.t⟩, ⟨x.tuple.value.kind, x.tuple.value.n, x.tuple.value.f, x.tuple.value.t⟩⟩⟩ (splice cs 2 [.int .i64 k]) := by
 obtain ⟨b1, A1, c1, b2, A2, c2, rfl, h1, h2, h3, h4, h5⟩ := kRw_shape ho
 exact kRw_own (x := ⟨x.page, x.slot, ⟨k, x.tuple.xmax, ⟨x.tuple.key.kind, x.tuple.key.n, x.tuple.key.f, x.tuple.key.t⟩, ⟨x.tuple.value.kind, x.tuple.value.n, x.tuple.value.f, x.tuple.value.t⟩⟩⟩) h1 h2 h3 h4 h5
theorem kRw_put3 {h : Hp} {S : Nat → Prop} {x : Rw} {cs : List Value} {k : Int} (ho : kRw.ow h S x cs) : kRw.ow h S ⟨x.page, x.slot, ⟨x.tuple.xmin, k, ⟨x.tuple.key.kind, x.tuple.key.n, x.tuple.key.f, x.tuple.key.t⟩, ⟨x.tuple.value.kind, x.tuple.value.n, x.tuple.value.f, x.tuple.value.t⟩⟩⟩ (splice cs 3 [.int .i64 k]) := by
 obtain ⟨b1, A1, c1, b2, A2, c2, rfl, h1, h2, h3, h4, h5⟩ := kRw_shape ho
 exact kRw_own (x := ⟨x.page, x.slot, ⟨x.tuple.xmin, k, ⟨x.tuple.key.kind, x.tuple.key.n, x.tuple.key.f, x.tuple.key.t⟩, ⟨x.tuple.value.kind, x.tuple.value.n, x.tuple.value.f, x.tuple.value.t⟩⟩⟩) h1 h2 h3 h4 h5
theorem kRw_put4 {h : Hp} {S : Nat → Prop} {x : Rw} {cs : List Value} {k : Int} (ho : kRw.ow h S x cs) : kRw.ow h S ⟨x.page, x.slot, ⟨x.tuple.xmin, x.tuple.xmax, ⟨k, x.tuple.key.n, x.tuple.key.f, x.tuple.key.t⟩, ⟨x.tuple.value.kind, x.tuple.value.n, x.tuple.value.f, x.tuple.value.t⟩⟩⟩ (splice cs 4 [.int .i64 k]) := by
 obtain ⟨b1, A1, c1, b2, A2, c2, rfl, h1, h2, h3, h4, h5⟩ := kRw_shape ho
 exact kRw_own (x := ⟨x.page, x.slot, ⟨x.tuple.xmin, x.tuple.xmax, ⟨k, x.tuple.key.n, x.tuple.key.f, x.tuple.key.t⟩, ⟨x.tuple.value.kind, x.tuple.value.n, x.tuple.value.f, x.tuple.value.t⟩⟩⟩) h1 h2 h3 h4 h5
theorem kRw_put5 {h : Hp} {S : Nat → Prop} {x : Rw} {cs : List Value} {k : Int} (ho : kRw.ow h S x cs) : kRw.ow h S ⟨x.page, x.slot, ⟨x.tuple.xmin, x.tuple.xmax, ⟨x.tuple.key.kind, k, x.tuple.key.f, x.tuple.key.t⟩, ⟨x.tuple.value.kind, x.tuple.value.n, x.tuple.value.f, x.tuple.value.t⟩⟩⟩ (splice cs 5 [.int .i64 k]) := by
 obtain ⟨b1, A1, c1, b2, A2, c2, rfl, h1, h2, h3, h4, h5⟩ := kRw_shape ho
 exact kRw_own (x := ⟨x.page, x.slot, ⟨x.tuple.xmin, x.tuple.xmax, ⟨x.tuple.key.kind, k, x.tuple.key.f, x.tuple.key.t⟩, ⟨x.tuple.value.kind, x.tuple.value.n, x.tuple.value.f, x.tuple.value.t⟩⟩⟩) h1 h2 h3 h4 h5
theorem kRw_put6 {h : Hp} {S : Nat → Prop} {x : Rw} {cs : List Value} {k : Nat} (hk : k < 18446744073709551616) (ho : kRw.ow h S x cs) : kRw.ow h S ⟨x.page, x.slot, ⟨x.tuple.xmin, x.tuple.xmax, ⟨x.tuple.key.kind, x.tuple.key.n, canonF k, x.tuple.key.t⟩, ⟨x.tuple.value.kind, x.tuple.value.n, x.tuple.value.f, x.tuple.value.t⟩⟩⟩ (splice cs 6 [.float .f64 k]) := by
 obtain ⟨b1, A1, c1, b2, A2, c2, rfl, h1, h2, h3, h4, h5⟩ := kRw_shape ho
 exact kRw_own (x := ⟨x.page, x.slot, ⟨x.tuple.xmin, x.tuple.xmax, ⟨x.tuple.key.kind, x.tuple.key.n, canonF k, x.tuple.key.t⟩, ⟨x.tuple.value.kind, x.tuple.value.n, x.tuple.value.f, x.tuple.value.t⟩⟩⟩) hk rfl h3 h4 h5
theorem kRw_put8 {h : Hp} {S : Nat → Prop} {x : Rw} {cs : List Value} {k : Int} (ho : kRw.ow h S x cs) : kRw.ow h S ⟨x.page, x.slot, ⟨x.tuple.xmin, x.tuple.xmax, ⟨x.tuple.key.kind, x.tuple.key.n, x.tuple.key.f, x.tuple.key.t⟩, ⟨k, x.tuple.value.n, x.tuple.value.f, x.tuple.value.t⟩⟩⟩ (splice cs 8 [.int .i64 k]) := by
 obtain ⟨b1, A1, c1, b2, A2, c2, rfl, h1, h2, h3, h4, h5⟩ := kRw_shape ho
 exact kRw_own (x := ⟨x.page, x.slot, ⟨x.tuple.xmin, x.tuple.xmax, ⟨x.tuple.key.kind, x.tuple.key.n, x.tuple.key.f, x.tuple.key.t⟩, ⟨k, x.tuple.value.n, x.tuple.value.f, x.tuple.value.t⟩⟩⟩) h1 h2 h3 h4 h5
theorem kRw_put9 {h : Hp} {S : Nat → Prop} {x : Rw} {cs : List Value} {k : Int} (ho : kRw.ow h S x cs) : kRw.ow h S ⟨x.page, x.slot, ⟨x.tuple.xmin, x.tuple.xmax, ⟨x.tuple.key.kind, x.tuple.key.n, x.tuple.key.f, x.tuple.key.t⟩, ⟨x.tuple.value.kind, k, x.tuple.value.f, x.tuple.value.t⟩⟩⟩ (splice cs 9 [.int .i64 k]) := by
 obtain ⟨b1, A1, c1, b2, A2, c2, rfl, h1, h2, h3, h4, h5⟩ := kRw_shape ho
 exact kRw_own (x := ⟨x.page, x.slot, ⟨x.tuple.xmin, x.tuple.xmax, ⟨x.tuple.key.kind, x.tuple.key.n, x.tuple.key.f, x.tuple.key.t⟩, ⟨x.tuple.value.kind, k, x.tuple.value.f, x.tuple.value.t⟩⟩⟩) h1 h2 h3 h4 h5
theorem kRw_put10 {h : Hp} {S : Nat → Prop} {x : Rw} {cs : List Value} {k : Nat} (hk : k < 18446744073709551616) (ho : kRw.ow h S x cs) : kRw.ow h S ⟨x.page, x.slot, ⟨x.tuple.xmin, x.tuple.xmax, ⟨x.tuple.key.kind, x.tuple.key.n, x.tuple.key.f, x.tuple.key.t⟩, ⟨x.tuple.value.kind, x.tuple.value.n, canonF k, x.tuple.value.t⟩⟩⟩ (splice cs 10 [.float .f64 k]) := by
 obtain ⟨b1, A1, c1, b2, A2, c2, rfl, h1, h2, h3, h4, h5⟩ := kRw_shape ho
 exact kRw_own (x := ⟨x.page, x.slot, ⟨x.tuple.xmin, x.tuple.xmax, ⟨x.tuple.key.kind, x.tuple.key.n, x.tuple.key.f, x.tuple.key.t⟩, ⟨x.tuple.value.kind, x.tuple.value.n, canonF k, x.tuple.value.t⟩⟩⟩) h1 h2 hk rfl h5
def nRw (x : Rw) : Nat := 10 + x.tuple.key.t.length + x.tuple.value.t.length
def nRs : List Rw → Nat
 | [] => 0
 | x :: r => nRw x + nRs r
def mkRw (x : Rw) (k : Int) : Rw := ⟨k, k + 1, ⟨k + 2, k + 3, ⟨k + 4, k + 5, fI (k + 6), mkB x.tuple.key.t.length (k + 7)⟩, ⟨k + 7 + x.tuple.key.t.length, k + 8 + x.tuple.key.t.length, fI (k + 9 + x.tuple.key.t.length), mkB x.tuple.value.t.length (k + 10 + x.tuple.key.t.length)⟩⟩⟩
def mkRs : List Rw → Int → List Rw
 | [], _ => []
 | x :: r, k => mkRw x k :: mkRs r (k + (nRw x : Nat))
theorem mkRs_len : ∀ (xs : List Rw) (k : Int), (mkRs xs k).length = xs.length
 | [], _ => rfl
 | x :: r, k => by simp [mkRs, mkRs_len r]
theorem nRs_app : ∀ (a b : List Rw), nRs (a ++ b) = nRs a + nRs b
 | [], b => by simp [nRs]
 | x :: r, b => by simp only [List.cons_append, nRs, nRs_app r b]; omega
theorem mkRs_app : ∀ (a b : List Rw) (k : Int), mkRs (a ++ b) k = mkRs a k ++ mkRs b (k + nRs a)
 | [], b, k => by simp [mkRs, nRs]
 | x :: r, b, k => by
  simp only [List.cons_append, mkRs, mkRs_app r b]
  rw [show k + ((nRw x : Nat) : Int) + (nRs r : Int) = k + (nRs (x :: r) : Int) by simp only [nRs]; omega]
theorem nRs_take {xs : List Rw} {i : Nat} (hi : i < xs.length) : nRs (xs.take (i + 1)) = nRs (xs.take i) + nRw xs[i] := by
 rw [List.take_succ_eq_append_getElem hi, nRs_app]
 simp [nRs]
theorem nRs_take_le (xs : List Rw) (i : Nat) : nRs (xs.take i) ≤ nRs xs := by
 conv => rhs; rw [← List.take_append_drop i xs, nRs_app]
 omega
theorem nRs_z : ∀ (xs : List Rw), nRs xs ≤ 10 * xs.length + (xs.map zRw).sum
 | [] => Nat.le_refl _
 | x :: r => by
  have h1 := nRs_z r
  have h3 : zRw x = x.tuple.key.t.length + x.tuple.value.t.length := rfl
  simp only [nRs, nRw, List.length_cons, List.map_cons, List.sum_cons]
  omega
theorem midR_get {xs : List Rw} {k : Int} {i : Nat} (hi : i < xs.length) (h : i < (mkRs (xs.take i) k ++ xs.drop i).length) : (mkRs (xs.take i) k ++ xs.drop i)[i] = xs[i] := by
 have hl : (mkRs (xs.take i) k).length = i := by rw [mkRs_len]; simp; omega
 rw [List.getElem_append_right (by omega)]
 simp [hl]
theorem mkRs_step (xs : List Rw) (k : Int) {i : Nat} (hi : i < xs.length) : (mkRs (xs.take i) k ++ xs.drop i).set i (mkRw xs[i] (k + nRs (xs.take i))) = mkRs (xs.take (i + 1)) k ++ xs.drop (i + 1) := by
 have hl : (mkRs (xs.take i) k).length = i := by rw [mkRs_len]; simp; omega
 rw [List.set_append_right _ _ (by omega), hl, Nat.sub_self, List.drop_eq_getElem_cons hi, List.set_cons_zero, List.take_succ_eq_append_getElem hi, mkRs_app]
 simp [mkRs]
theorem mkRs_get {xs : List Rw} {k : Int} {i : Nat} (hi : i < xs.length) (h : i < (mkRs xs k).length) : (mkRs xs k)[i] = mkRw xs[i] (k + nRs (xs.take i)) := by
 have e : mkRs xs k = mkRs (xs.take i) k ++ mkRs (xs.drop i) (k + nRs (xs.take i)) := by rw [← mkRs_app, List.take_append_drop]
 have hl : (mkRs (xs.take i) k).length = i := by rw [mkRs_len]; simp; omega
 simp only [e]
 rw [List.getElem_append_right (by omega)]
 simp only [hl, Nat.sub_self, List.drop_eq_getElem_cons hi, mkRs, List.getElem_cons_zero]
theorem mkRw_n (x : Rw) (k : Int) : nRw (mkRw x k) = nRw x := by simp only [nRw, mkRw, mkB_len]
theorem mkRw_idem (x : Rw) (k : Int) : mkRw (mkRw x k) k = mkRw x k := by simp only [mkRw, mkB_len]
theorem mkRs_n : ∀ (xs : List Rw) (k : Int), nRs (mkRs xs k) = nRs xs
 | [], _ => rfl
 | x :: r, k => by simp only [mkRs, nRs, mkRw_n, mkRs_n r]
theorem mkRs_idem : ∀ (l : List Rw) (k : Int), mkRs (mkRs l k) k = mkRs l k
 | [], _ => rfl
 | x :: r, k => by simp only [mkRs, mkRw_n, mkRw_idem, mkRs_idem r]
theorem mkRs_sl : ∀ (l : List Rw) (k : Int), (∀ x ∈ l, x.tuple.key.t.length ≤ 40 ∧ x.tuple.value.t.length ≤ 40) → ∀ x ∈ mkRs l k, x.tuple.key.t.length ≤ 40 ∧ x.tuple.value.t.length ≤ 40
 | [], _, _, y, hy => by cases hy
 | x :: r, k, h, y, hy => by
  simp only [mkRs, List.mem_cons] at hy
  rcases hy with rfl | hy
  ·obtain ⟨h1, h2⟩ := h x (List.mem_cons_self)
   simp only [mkRw, mkB_len]
   exact ⟨h1, h2⟩
  ·exact mkRs_sl r _ (fun z hz => h z (List.mem_cons_of_mem _ hz)) y hy
theorem eqTuple_ok (x : Tu) (cs1 cs2 : List Value) (w : World) (h1 : kTu.rd w.heap x cs1) (h2 : kTu.rd w.heap x cs2) (hz : zTu x ≤ 1048576) :
  Calls Tryz.prog 60 #[.agg cs1.toArray, .agg cs2.toArray] w fun e w' => e = .returned (.bool true) ∧ Below w.heap.size w w' := by
 obtain ⟨b1key_f, A1key_t, c1key_t, b1value_f, A1value_t, c1value_t, rfl, hb1key_f, hf1key_f, hr1key_t, hb1value_f, hf1value_f, hr1value_t⟩ := kTu_inv h1
 obtain ⟨b2key_f, A2key_t, c2key_t, b2value_f, A2value_t, c2value_t, rfl, hb2key_f, hf2key_f, hr2key_t, hb2value_f, hf2value_f, hr2value_t⟩ := kTu_inv h2
 have hzz : zTu x = zIt x.key + zIt x.value := rfl
 refine enter (args := [.agg [.v (.int .i64 x.xmin), .v (.int .i64 x.xmax), .v (.int .i64 x.key.kind), .v (.int .i64 x.key.n), .v (.float .f64 b1key_f), .v (.slice A1key_t x.key.t.length c1key_t), .v (.int .i64 x.value.kind), .v (.int .i64 x.value.n), .v (.float .f64 b1value_f), .v (.slice A1value_t x.value.t.length c1value_t)], .agg [.v (.int .i64 x.xmin), .v (.int .i64 x.xmax), .v (.int .i64 x.key.kind), .v (.int .i64 x.key.n), .v (.float .f64 b2key_f), .v (.slice A2key_t x.key.t.length c2key_t), .v (.int .i64 x.value.kind), .v (.int .i64 x.value.n), .v (.float .f64 b2value_f), .v (.slice A2value_t x.value.t.length c2value_t)]]) Tryz.func60 (c := bodyOf Tryz.f60) rfl rfl (start_LOK _) (start_old w) ?_
 refine gn 2 Rg.no [kCd (bitL 3 5), KI.code [true, true]] [(2, vR 0 0), (3, vR 1 0), (9, vB (x.xmin != x.xmin))] [LB.mk [cI x.xmin, cI x.xmax, cI x.key.kind, cI x.key.n, cF b1key_f, cS A1key_t x.key.t.length c1key_t, cI x.value.kind, cI x.value.n, cF b1value_f, cS A1value_t x.value.t.length c1value_t] 60, LB.mk [cI x.xmin, cI x.xmax, cI x.key.kind, cI x.key.n, cF b2key_f, cS A2key_t x.key.t.length c2key_t, cI x.value.kind, cI x.value.n, cF b2value_f, cS A2value_t x.value.t.length c2value_t] 60] ?_
 refine spl 9 (x.xmin != x.xmin) ?_ ?_
 ·intro hb1
  replace hb1 := bne_iff_ne.1 hb1
  (exfalso; omega)
 ·intro hb1
  replace hb1 := bne_eq_false_iff_eq.1 hb1
  refine gn 2 Rg.no [kCd (bitL 4 11), kCd (bitL 3 7)] [(2, vR 0 0), (3, vR 1 0), (14, vB (x.xmax != x.xmax))] [LB.mk [cI x.xmin, cI x.xmax, cI x.key.kind, cI x.key.n, cF b1key_f, cS A1key_t x.key.t.length c1key_t, cI x.value.kind, cI x.value.n, cF b1value_f, cS A1value_t x.value.t.length c1value_t] 60, LB.mk [cI x.xmin, cI x.xmax, cI x.key.kind, cI x.key.n, cF b2key_f, cS A2key_t x.key.t.length c2key_t, cI x.value.kind, cI x.value.n, cF b2value_f, cS A2value_t x.value.t.length c2value_t] 60] ?_
  refine spl 14 (x.xmax != x.xmax) ?_ ?_
  ·intro hb2
   replace hb2 := bne_iff_ne.1 hb2
   (exfalso; omega)
  ·intro hb2
   replace hb2 := bne_eq_false_iff_eq.1 hb2
   refine gn 2 (Rg.sq (bitL 5 7) 4) [kCd (bitL 5 23), kCd (bitL 4 15)] [(2, vR 0 0), (3, vR 1 0), (16, SV.agg [cI x.key.kind, cI x.key.n, cF b1key_f, cS A1key_t x.key.t.length c1key_t]), (18, SV.agg [cI x.key.kind, cI x.key.n, cF b2key_f, cS A2key_t x.key.t.length c2key_t])] [LB.mk [cI x.xmin, cI x.xmax, cI x.key.kind, cI x.key.n, cF b1key_f, cS A1key_t x.key.t.length c1key_t, cI x.value.kind, cI x.value.n, cF b1value_f, cS A1value_t x.value.t.length c1value_t] 60, LB.mk [cI x.xmin, cI x.xmax, cI x.key.kind, cI x.key.n, cF b2key_f, cS A2key_t x.key.t.length c2key_t, cI x.value.kind, cI x.value.n, cF b2value_f, cS A2value_t x.value.t.length c2value_t] 60] ?_
   refine cpk 24 [SV.agg [cI x.key.kind, cI x.key.n, cF b1key_f, cS A1key_t x.key.t.length c1key_t], SV.agg [cI x.key.kind, cI x.key.n, cF b2key_f, cS A2key_t x.key.t.length c2key_t]] (some 19) (Rg.sq (bitL 5 7) 5) (.one (.bo (true))) (fun L w1 hs => (eqItem_ok (x.key) ([Value.int IntKind.i64 x.key.kind, Value.int IntKind.i64 x.key.n, Value.float FloatKind.f64 b1key_f, Value.slice A1key_t x.key.t.length c1key_t]) ([Value.int IntKind.i64 x.key.kind, Value.int IntKind.i64 x.key.n, Value.float FloatKind.f64 b2key_f, Value.slice A2key_t x.key.t.length c2key_t]) w1 (kIt_mk ‹_› hf1key_f (rdRow_ext (hs.old 0 rfl) hr1key_t)) (kIt_mk ‹_› ‹_› (rdRow_ext (hs.old 0 rfl) hr2key_t)) (by omega))) ?_
   refine gn 2 Rg.no [kCd (bitL 5 23), kCd (bitL 4 15)] [(2, vR 0 0), (3, vR 1 0), (20, vB false)] [LB.mk [cI x.xmin, cI x.xmax, cI x.key.kind, cI x.key.n, cF b1key_f, cS A1key_t x.key.t.length c1key_t, cI x.value.kind, cI x.value.n, cF b1value_f, cS A1value_t x.value.t.length c1value_t] 60, LB.mk [cI x.xmin, cI x.xmax, cI x.key.kind, cI x.key.n, cF b2key_f, cS A2key_t x.key.t.length c2key_t, cI x.value.kind, cI x.value.n, cF b2value_f, cS A2value_t x.value.t.length c2value_t] 60] ?_
   refine ltk 20 false ?_
   refine gn 0 (Rg.sq (bitL 6 15) 4) [kCd (bitL 6 47), kCd (bitL 5 31)] [(22, SV.agg [cI x.value.kind, cI x.value.n, cF b1value_f, cS A1value_t x.value.t.length c1value_t]), (24, SV.agg [cI x.value.kind, cI x.value.n, cF b2value_f, cS A2value_t x.value.t.length c2value_t])] [] ?_
   refine cpk 24 [SV.agg [cI x.value.kind, cI x.value.n, cF b1value_f, cS A1value_t x.value.t.length c1value_t], SV.agg [cI x.value.kind, cI x.value.n, cF b2value_f, cS A2value_t x.value.t.length c2value_t]] (some 25) (Rg.sq (bitL 6 15) 5) (.one (.bo (true))) (fun L w1 hs => (eqItem_ok (x.value) ([Value.int IntKind.i64 x.value.kind, Value.int IntKind.i64 x.value.n, Value.float FloatKind.f64 b1value_f, Value.slice A1value_t x.value.t.length c1value_t]) ([Value.int IntKind.i64 x.value.kind, Value.int IntKind.i64 x.value.n, Value.float FloatKind.f64 b2value_f, Value.slice A2value_t x.value.t.length c2value_t]) w1 (kIt_mk ‹_› hf1value_f (rdRow_ext (hs.old 0 rfl) hr1value_t)) (kIt_mk ‹_› ‹_› (rdRow_ext (hs.old 0 rfl) hr2value_t)) (by omega))) ?_
   refine gn 0 Rg.no [kCd (bitL 6 47), kCd (bitL 5 31)] [(26, vB false)] [] ?_
   refine ltk 26 false ?_
   refine gn 0 Rg.no [kCd (bitL 6 63)] [(4, vL true)] [] ?_
   refine rtk [vL true] ?_
   intro L w1 hs
   exact ⟨rfl, hs.out0⟩
theorem eqRow_ok (x : Rw) (cs1 cs2 : List Value) (w : World) (h1 : kRw.rd w.heap x cs1) (h2 : kRw.rd w.heap x cs2) (hz : zRw x ≤ 1048576) :
  Calls Tryz.prog 32 #[.agg cs1.toArray, .agg cs2.toArray] w fun e w' => e = .returned (.bool true) ∧ Below w.heap.size w w' := by
 obtain ⟨b1tuple_key_f, A1tuple_key_t, c1tuple_key_t, b1tuple_value_f, A1tuple_value_t, c1tuple_value_t, rfl, hb1tuple_key_f, hf1tuple_key_f, hr1tuple_key_t, hb1tuple_value_f, hf1tuple_value_f, hr1tuple_value_t⟩ := kRw_inv h1
 obtain ⟨b2tuple_key_f, A2tuple_key_t, c2tuple_key_t, b2tuple_value_f, A2tuple_value_t, c2tuple_value_t, rfl, hb2tuple_key_f, hf2tuple_key_f, hr2tuple_key_t, hb2tuple_value_f, hf2tuple_value_f, hr2tuple_value_t⟩ := kRw_inv h2
 have hzz : zRw x = zTu x.tuple := rfl
 refine enter (args := [.agg [.v (.int .i64 x.page), .v (.int .i64 x.slot), .v (.int .i64 x.tuple.xmin), .v (.int .i64 x.tuple.xmax), .v (.int .i64 x.tuple.key.kind), .v (.int .i64 x.tuple.key.n), .v (.float .f64 b1tuple_key_f), .v (.slice A1tuple_key_t x.tuple.key.t.length c1tuple_key_t), .v (.int .i64 x.tuple.value.kind), .v (.int .i64 x.tuple.value.n), .v (.float .f64 b1tuple_value_f), .v (.slice A1tuple_value_t x.tuple.value.t.length c1tuple_value_t)], .agg [.v (.int .i64 x.page), .v (.int .i64 x.slot), .v (.int .i64 x.tuple.xmin), .v (.int .i64 x.tuple.xmax), .v (.int .i64 x.tuple.key.kind), .v (.int .i64 x.tuple.key.n), .v (.float .f64 b2tuple_key_f), .v (.slice A2tuple_key_t x.tuple.key.t.length c2tuple_key_t), .v (.int .i64 x.tuple.value.kind), .v (.int .i64 x.tuple.value.n), .v (.float .f64 b2tuple_value_f), .v (.slice A2tuple_value_t x.tuple.value.t.length c2tuple_value_t)]]) Tryz.func32 (c := bodyOf Tryz.f32) rfl rfl (start_LOK _) (start_old w) ?_
 refine gn 2 Rg.no [kCd (bitL 3 5), KI.code [true, true]] [(2, vR 0 0), (3, vR 1 0), (9, vB (x.page != x.page))] [LB.mk [cI x.page, cI x.slot, cI x.tuple.xmin, cI x.tuple.xmax, cI x.tuple.key.kind, cI x.tuple.key.n, cF b1tuple_key_f, cS A1tuple_key_t x.tuple.key.t.length c1tuple_key_t, cI x.tuple.value.kind, cI x.tuple.value.n, cF b1tuple_value_f, cS A1tuple_value_t x.tuple.value.t.length c1tuple_value_t] 64, LB.mk [cI x.page, cI x.slot, cI x.tuple.xmin, cI x.tuple.xmax, cI x.tuple.key.kind, cI x.tuple.key.n, cF b2tuple_key_f, cS A2tuple_key_t x.tuple.key.t.length c2tuple_key_t, cI x.tuple.value.kind, cI x.tuple.value.n, cF b2tuple_value_f, cS A2tuple_value_t x.tuple.value.t.length c2tuple_value_t] 64] ?_
 refine spl 9 (x.page != x.page) ?_ ?_
 ·intro hb1
  replace hb1 := bne_iff_ne.1 hb1
  (exfalso; omega)
 ·intro hb1
  replace hb1 := bne_eq_false_iff_eq.1 hb1
  refine gn 2 Rg.no [kCd (bitL 4 11), kCd (bitL 3 7)] [(2, vR 0 0), (3, vR 1 0), (14, vB (x.slot != x.slot))] [LB.mk [cI x.page, cI x.slot, cI x.tuple.xmin, cI x.tuple.xmax, cI x.tuple.key.kind, cI x.tuple.key.n, cF b1tuple_key_f, cS A1tuple_key_t x.tuple.key.t.length c1tuple_key_t, cI x.tuple.value.kind, cI x.tuple.value.n, cF b1tuple_value_f, cS A1tuple_value_t x.tuple.value.t.length c1tuple_value_t] 64, LB.mk [cI x.page, cI x.slot, cI x.tuple.xmin, cI x.tuple.xmax, cI x.tuple.key.kind, cI x.tuple.key.n, cF b2tuple_key_f, cS A2tuple_key_t x.tuple.key.t.length c2tuple_key_t, cI x.tuple.value.kind, cI x.tuple.value.n, cF b2tuple_value_f, cS A2tuple_value_t x.tuple.value.t.length c2tuple_value_t] 64] ?_
  refine spl 14 (x.slot != x.slot) ?_ ?_
  ·intro hb2
   replace hb2 := bne_iff_ne.1 hb2
   (exfalso; omega)
  ·intro hb2
   replace hb2 := bne_eq_false_iff_eq.1 hb2
   refine gn 0 (Rg.sq (bitL 5 7) 4) [kCd (bitL 5 23), kCd (bitL 4 15)] [(16, SV.agg [cI x.tuple.xmin, cI x.tuple.xmax, cI x.tuple.key.kind, cI x.tuple.key.n, cF b1tuple_key_f, cS A1tuple_key_t x.tuple.key.t.length c1tuple_key_t, cI x.tuple.value.kind, cI x.tuple.value.n, cF b1tuple_value_f, cS A1tuple_value_t x.tuple.value.t.length c1tuple_value_t]), (18, SV.agg [cI x.tuple.xmin, cI x.tuple.xmax, cI x.tuple.key.kind, cI x.tuple.key.n, cF b2tuple_key_f, cS A2tuple_key_t x.tuple.key.t.length c2tuple_key_t, cI x.tuple.value.kind, cI x.tuple.value.n, cF b2tuple_value_f, cS A2tuple_value_t x.tuple.value.t.length c2tuple_value_t])] [] ?_
   refine cpk 60 [SV.agg [cI x.tuple.xmin, cI x.tuple.xmax, cI x.tuple.key.kind, cI x.tuple.key.n, cF b1tuple_key_f, cS A1tuple_key_t x.tuple.key.t.length c1tuple_key_t, cI x.tuple.value.kind, cI x.tuple.value.n, cF b1tuple_value_f, cS A1tuple_value_t x.tuple.value.t.length c1tuple_value_t], SV.agg [cI x.tuple.xmin, cI x.tuple.xmax, cI x.tuple.key.kind, cI x.tuple.key.n, cF b2tuple_key_f, cS A2tuple_key_t x.tuple.key.t.length c2tuple_key_t, cI x.tuple.value.kind, cI x.tuple.value.n, cF b2tuple_value_f, cS A2tuple_value_t x.tuple.value.t.length c2tuple_value_t]] (some 19) (Rg.sq (bitL 5 7) 5) (.one (.bo (true))) (fun L w1 hs => (eqTuple_ok (x.tuple) ([Value.int IntKind.i64 x.tuple.xmin, Value.int IntKind.i64 x.tuple.xmax, Value.int IntKind.i64 x.tuple.key.kind, Value.int IntKind.i64 x.tuple.key.n, Value.float FloatKind.f64 b1tuple_key_f, Value.slice A1tuple_key_t x.tuple.key.t.length c1tuple_key_t, Value.int IntKind.i64 x.tuple.value.kind, Value.int IntKind.i64 x.tuple.value.n, Value.float FloatKind.f64 b1tuple_value_f, Value.slice A1tuple_value_t x.tuple.value.t.length c1tuple_value_t]) ([Value.int IntKind.i64 x.tuple.xmin, Value.int IntKind.i64 x.tuple.xmax, Value.int IntKind.i64 x.tuple.key.kind, Value.int IntKind.i64 x.tuple.key.n, Value.float FloatKind.f64 b2tuple_key_f, Value.slice A2tuple_key_t x.tuple.key.t.length c2tuple_key_t, Value.int IntKind.i64 x.tuple.value.kind, Value.int IntKind.i64 x.tuple.value.n, Value.float FloatKind.f64 b2tuple_value_f, Value.slice A2tuple_value_t x.tuple.value.t.length c2tuple_value_t]) w1 (kTu_mk ‹_› hf1tuple_key_f (rdRow_ext (hs.old 0 rfl) hr1tuple_key_t) ‹_› hf1tuple_value_f (rdRow_ext (hs.old 0 rfl) hr1tuple_value_t)) (kTu_mk ‹_› ‹_› (rdRow_ext (hs.old 0 rfl) hr2tuple_key_t) ‹_› ‹_› (rdRow_ext (hs.old 0 rfl) hr2tuple_value_t)) ‹_›)) ?_
   refine gn 0 Rg.no [kCd (bitL 5 23), kCd (bitL 4 15)] [(20, vB false)] [] ?_
   refine ltk 20 false ?_
   refine gn 0 Rg.no [kCd (bitL 5 31)] [(4, vL true)] [] ?_
   refine rtk [vL true] ?_
   intro L w1 hs
   exact ⟨rfl, hs.out0⟩
theorem eqRowS_ok (xs : List Rw) (v1 v2 : Value) (w : World) (h1 : rdRow kRw w.heap xs v1) (h2 : rdRow kRw w.heap xs v2) (hz : zRow zRw xs ≤ 1048576) :
  Calls Tryz.prog 10 #[v1, v2] w fun e w' => e = .returned (.bool true) ∧ Below w.heap.size w w' := by
 obtain ⟨A1, c1, rfl⟩ := rdRow_form h1
 obtain ⟨A2, c2, rfl⟩ := rdRow_form h2
 have hzz : zRow zRw xs = xs.length + (xs.map zRw).sum := rfl
 have sd_1 : ∀ (j : Nat) (h : j < xs.length), zRw xs[j] ≤ 1048576 := fun j h => by have := z_le zRw xs (List.getElem_mem h); omega
 refine enter (args := [.one (.v (.slice A1 xs.length c1)), .one (.v (.slice A2 xs.length c2))]) Tryz.func10 (c := bodyOf Tryz.f10) rfl rfl (start_LOK _) (start_old w) ?_
 have hzl : xs.length ≤ 1048576 := by omega
 refine gn 0 Rg.no [kCd (bitL 3 5), KI.code [true, true]] [(0, vS A1 xs.length c1), (1, vS A2 xs.length c2), (10, vB ((↑xs.length : Int) != (↑xs.length : Int)))] [] ?_
 refine spl 10 ((↑xs.length : Int) != (↑xs.length : Int)) ?_ ?_
 ·intro hb1
  replace hb1 := bne_iff_ne.1 hb1
  (exfalso; omega)
 intro hb1
 replace hb1 := bne_eq_false_iff_eq.1 hb1
 refine gn 0 Rg.no [kLp (bitL 6 59), KI.block 0, kCd (bitL 3 7)] [(0, vS A1 xs.length c1), (1, vS A2 xs.length c2), (5, vI 0)] [] ?_
 refine loop_at (ι := Nat) (fun i => [(5, .one (.v (.int .i64 i)))]) (fun _ => []) (fun i => [oldA w]) (fun i => i ≤ xs.length) (fun i => xs.length - i) 0 rfl rfl rfl (Nat.zero_le _) ?_
 intro i hi ih
 refine gn 0 Rg.no [kCd (bitL 8 187), kCd (bitL 7 123), kLp (bitL 6 59), KI.block 0, kCd (bitL 3 7)] [(0, vS A1 xs.length c1), (1, vS A2 xs.length c2), (5, vI (↑i : Int)), (14, vB (decide ((↑i : Int) < (↑xs.length : Int))))] [] ?_
 refine spl 14 (decide ((↑i : Int) < (↑xs.length : Int))) ?_ ?_
 ·intro hb2
  replace hb2 := of_decide_eq_true hb2
  refine gn 0 (Rg.dr (bitL 10 379) (bitL 10 51) 6 2) [kCd (bitL 10 891), KI.block 1, kCd (bitL 8 251), kLp (bitL 6 59), KI.block 0, kCd (bitL 3 7)] [(0, vS A1 xs.length c1), (1, vS A2 xs.length c2), (5, vI (↑i : Int)), (17, vS A1 xs.length c1), (18, vI (↑i : Int)), (21, vS A2 xs.length c2), (22, vI (↑i : Int))] [] ?_
  refine index_at 2 (by kernel_rfl : atP _ _ _ 2 false = some (Op.indexAddr 26 (tmpO 17) (tmpO 18), 0, some 19, Rg.dr (bitL 10 379) (bitL 10 55) 5 2)) (ni := i) (sz := 12) (by kernel_rfl) rfl rfl rfl (by omega) (fun L w1 hs => rd_some (i := i) (rdRow_ext (hs.old 0 rfl) h1) (by omega)) ?_
  intro a_1 ha_1
  cases ha_1
  refine gn 0 (Rg.dr (bitL 10 379) (bitL 10 55) 5 2) [kCd (bitL 10 891), KI.block 1, kCd (bitL 8 251), kLp (bitL 6 59), KI.block 0, kCd (bitL 3 7)] [(0, vS (some a_1) xs.length c1), (1, vS A2 xs.length c2), (5, vI (↑i : Int)), (19, vP (a_1.add (i * 12))), (21, vS A2 xs.length c2), (22, vI (↑i : Int))] [] ?_
  refine index_at 6 (by kernel_rfl : atP _ _ _ 6 false = some (Op.indexAddr 26 (tmpO 21) (tmpO 22), 0, some 23, Rg.dr (bitL 10 379) (bitL 10 119) 4 2)) (ni := i) (sz := 12) (by kernel_rfl) rfl rfl rfl (by omega) (fun L w1 hs => rd_some (i := i) (rdRow_ext (hs.old 0 rfl) h2) (by omega)) ?_
  intro a_2 ha_2
  cases ha_2
  refine gn 0 (Rg.dr (bitL 10 379) (bitL 10 119) 4 2) [kCd (bitL 10 891), KI.block 1, kCd (bitL 8 251), kLp (bitL 6 59), KI.block 0, kCd (bitL 3 7)] [(0, vS (some a_1) xs.length c1), (1, vS (some a_2) xs.length c2), (5, vI (↑i : Int)), (19, vP (a_1.add (i * 12))), (23, vP (a_2.add (i * 12)))] [] ?_
  obtain ⟨btuple_key_f_el1, Atuple_key_t_el1, ctuple_key_t_el1, btuple_value_f_el1, Atuple_value_t_el1, ctuple_value_t_el1, hr1_el1, hr2_el1, hr3_el1, hr4_el1, hr5_el1, hr6_el1, hc_el1⟩ := kRw_at (i := i) h1 (by omega)
  refine load_agg 3 (by kernel_rfl : atP _ _ _ 3 true = some (Op.load 64 (tmpO 19), 64, some 20, Rg.dr (bitL 10 379) (bitL 10 127) 3 2)) (n := 12) (by kernel_rfl) rfl ?_
  intro L w1 hs
  refine ⟨[.v (Value.int IntKind.i64 xs[i].page), .v (Value.int IntKind.i64 xs[i].slot), .v (Value.int IntKind.i64 xs[i].tuple.xmin), .v (Value.int IntKind.i64 xs[i].tuple.xmax), .v (Value.int IntKind.i64 xs[i].tuple.key.kind), .v (Value.int IntKind.i64 xs[i].tuple.key.n), .v (Value.float FloatKind.f64 btuple_key_f_el1), .v (Value.slice Atuple_key_t_el1 xs[i].tuple.key.t.length ctuple_key_t_el1), .v (Value.int IntKind.i64 xs[i].tuple.value.kind), .v (Value.int IntKind.i64 xs[i].tuple.value.n), .v (Value.float FloatKind.f64 btuple_value_f_el1), .v (Value.slice Atuple_value_t_el1 xs[i].tuple.value.t.length ctuple_value_t_el1)], rfl, cells_at0 (cellsH_ext (hs.old 0 rfl) hc_el1) rfl, ?_⟩
  clear hs
  refine gn 0 (Rg.dr (bitL 10 379) (bitL 10 127) 3 2) [kCd (bitL 10 891), KI.block 1, kCd (bitL 8 251), kLp (bitL 6 59), KI.block 0, kCd (bitL 3 7)] [(0, vS (some a_1) xs.length c1), (1, vS (some a_2) xs.length c2), (5, vI (↑i : Int)), (20, SV.agg [cI xs[i].page, cI xs[i].slot, cI xs[i].tuple.xmin, cI xs[i].tuple.xmax, cI xs[i].tuple.key.kind, cI xs[i].tuple.key.n, cF btuple_key_f_el1, cS Atuple_key_t_el1 xs[i].tuple.key.t.length ctuple_key_t_el1, cI xs[i].tuple.value.kind, cI xs[i].tuple.value.n, cF btuple_value_f_el1, cS Atuple_value_t_el1 xs[i].tuple.value.t.length ctuple_value_t_el1]), (23, vP (a_2.add (i * 12)))] [] ?_
  obtain ⟨btuple_key_f_el2, Atuple_key_t_el2, ctuple_key_t_el2, btuple_value_f_el2, Atuple_value_t_el2, ctuple_value_t_el2, hr1_el2, hr2_el2, hr3_el2, hr4_el2, hr5_el2, hr6_el2, hc_el2⟩ := kRw_at (i := i) h2 (by omega)
  refine load_agg 7 (by kernel_rfl : atP _ _ _ 7 true = some (Op.load 64 (tmpO 23), 64, some 24, Rg.dr (bitL 10 379) (bitL 10 255) 2 2)) (n := 12) (by kernel_rfl) rfl ?_
  intro L w1 hs
  refine ⟨[.v (Value.int IntKind.i64 xs[i].page), .v (Value.int IntKind.i64 xs[i].slot), .v (Value.int IntKind.i64 xs[i].tuple.xmin), .v (Value.int IntKind.i64 xs[i].tuple.xmax), .v (Value.int IntKind.i64 xs[i].tuple.key.kind), .v (Value.int IntKind.i64 xs[i].tuple.key.n), .v (Value.float FloatKind.f64 btuple_key_f_el2), .v (Value.slice Atuple_key_t_el2 xs[i].tuple.key.t.length ctuple_key_t_el2), .v (Value.int IntKind.i64 xs[i].tuple.value.kind), .v (Value.int IntKind.i64 xs[i].tuple.value.n), .v (Value.float FloatKind.f64 btuple_value_f_el2), .v (Value.slice Atuple_value_t_el2 xs[i].tuple.value.t.length ctuple_value_t_el2)], rfl, cells_at0 (cellsH_ext (hs.old 0 rfl) hc_el2) rfl, ?_⟩
  clear hs
  refine gn 0 (Rg.dr (bitL 10 379) (bitL 10 255) 2 2) [kCd (bitL 10 891), KI.block 1, kCd (bitL 8 251), kLp (bitL 6 59), KI.block 0, kCd (bitL 3 7)] [(0, vS (some a_1) xs.length c1), (1, vS (some a_2) xs.length c2), (5, vI (↑i : Int)), (20, SV.agg [cI xs[i].page, cI xs[i].slot, cI xs[i].tuple.xmin, cI xs[i].tuple.xmax, cI xs[i].tuple.key.kind, cI xs[i].tuple.key.n, cF btuple_key_f_el1, cS Atuple_key_t_el1 xs[i].tuple.key.t.length ctuple_key_t_el1, cI xs[i].tuple.value.kind, cI xs[i].tuple.value.n, cF btuple_value_f_el1, cS Atuple_value_t_el1 xs[i].tuple.value.t.length ctuple_value_t_el1]), (24, SV.agg [cI xs[i].page, cI xs[i].slot, cI xs[i].tuple.xmin, cI xs[i].tuple.xmax, cI xs[i].tuple.key.kind, cI xs[i].tuple.key.n, cF btuple_key_f_el2, cS Atuple_key_t_el2 xs[i].tuple.key.t.length ctuple_key_t_el2, cI xs[i].tuple.value.kind, cI xs[i].tuple.value.n, cF btuple_value_f_el2, cS Atuple_value_t_el2 xs[i].tuple.value.t.length ctuple_value_t_el2])] [] ?_
  refine cpk 32 [SV.agg [cI xs[i].page, cI xs[i].slot, cI xs[i].tuple.xmin, cI xs[i].tuple.xmax, cI xs[i].tuple.key.kind, cI xs[i].tuple.key.n, cF btuple_key_f_el1, cS Atuple_key_t_el1 xs[i].tuple.key.t.length ctuple_key_t_el1, cI xs[i].tuple.value.kind, cI xs[i].tuple.value.n, cF btuple_value_f_el1, cS Atuple_value_t_el1 xs[i].tuple.value.t.length ctuple_value_t_el1], SV.agg [cI xs[i].page, cI xs[i].slot, cI xs[i].tuple.xmin, cI xs[i].tuple.xmax, cI xs[i].tuple.key.kind, cI xs[i].tuple.key.n, cF btuple_key_f_el2, cS Atuple_key_t_el2 xs[i].tuple.key.t.length ctuple_key_t_el2, cI xs[i].tuple.value.kind, cI xs[i].tuple.value.n, cF btuple_value_f_el2, cS Atuple_value_t_el2 xs[i].tuple.value.t.length ctuple_value_t_el2]] (some 25) (Rg.dr (bitL 10 379) (bitL 10 511) 1 10) (.one (.bo (true))) (fun L w1 hs => (eqRow_ok (xs[i]) ([Value.int IntKind.i64 xs[i].page, Value.int IntKind.i64 xs[i].slot, Value.int IntKind.i64 xs[i].tuple.xmin, Value.int IntKind.i64 xs[i].tuple.xmax, Value.int IntKind.i64 xs[i].tuple.key.kind, Value.int IntKind.i64 xs[i].tuple.key.n, Value.float FloatKind.f64 btuple_key_f_el1, Value.slice Atuple_key_t_el1 xs[i].tuple.key.t.length ctuple_key_t_el1, Value.int IntKind.i64 xs[i].tuple.value.kind, Value.int IntKind.i64 xs[i].tuple.value.n, Value.float FloatKind.f64 btuple_value_f_el1, Value.slice Atuple_value_t_el1 xs[i].tuple.value.t.length ctuple_value_t_el1]) ([Value.int IntKind.i64 xs[i].page, Value.int IntKind.i64 xs[i].slot, Value.int IntKind.i64 xs[i].tuple.xmin, Value.int IntKind.i64 xs[i].tuple.xmax, Value.int IntKind.i64 xs[i].tuple.key.kind, Value.int IntKind.i64 xs[i].tuple.key.n, Value.float FloatKind.f64 btuple_key_f_el2, Value.slice Atuple_key_t_el2 xs[i].tuple.key.t.length ctuple_key_t_el2, Value.int IntKind.i64 xs[i].tuple.value.kind, Value.int IntKind.i64 xs[i].tuple.value.n, Value.float FloatKind.f64 btuple_value_f_el2, Value.slice Atuple_value_t_el2 xs[i].tuple.value.t.length ctuple_value_t_el2]) w1 (kRw_mk ‹_› hr2_el1 (rdRow_ext (hs.old 0 rfl) hr3_el1) ‹_› hr5_el1 (rdRow_ext (hs.old 0 rfl) hr6_el1)) (kRw_mk ‹_› ‹_› (rdRow_ext (hs.old 0 rfl) hr3_el2) ‹_› ‹_› (rdRow_ext (hs.old 0 rfl) hr6_el2)) (by exact sd_1 _ _))) ?_
  refine gn 0 Rg.no [kCd (bitL 10 891), KI.block 1, kCd (bitL 8 251), kLp (bitL 6 59), KI.block 0, kCd (bitL 3 7)] [(0, vS (some a_1) xs.length c1), (1, vS (some a_2) xs.length c2), (5, vI (↑i : Int)), (26, vB false)] [] ?_
  refine ltk 26 false ?_
  refine gn 0 Rg.no [kLp (bitL 6 59), KI.block 0, kCd (bitL 3 7)] [(0, vS (some a_1) xs.length c1), (1, vS (some a_2) xs.length c2), (5, vI (IntKind.i64.wrap ((↑i : Int) + 1)))] [] ?_
  rw [wrap_succ (by omega)]; exact ih (i + 1) (by omega) (by omega)
 ·intro hb2
  replace hb2 := of_decide_eq_false hb2
  refine gn 0 Rg.no [kCd (bitL 4 15)] [(4, vL true)] [] ?_
  refine rtk [vL true] ?_
  intro L w1 hs
  exact ⟨rfl, hs.out0⟩
end Go.Proofs.YtgleoebogikooaaGreat.Dk
