/- Walks of functions of the program: what each call returns and what it leaves in memory. Conditions: those that each theorem names. -/
import Derived.Test.YtgleoebogikooaaGreatW1
namespace Go.Proofs.YtgleoebogikooaaGreat.Dk
set_option linter.unusedVariables false
set_option linter.unusedSimpArgs false
open Go.Proofs.YtgleoebogikooaaGreat.Sx Go.Proofs Go.RowKit
set_option maxRecDepth 100000
set_option maxHeartbeats 1000000
structure Rw where
 page : Int
 slot : Int
 tuple : Tu
def kRw : Kn Rw := kVia (fun x => (x.page, x.slot, x.tuple)) (kPair kI64 (kPair kI64 kTu))
theorem kRw_inv {h : Hp} {x : Rw} {cs : List Value} (hx : kRw.rd h x cs) : ∃ (btuple_key_f : Nat) (Atuple_key_t : Option Addr) (ctuple_key_t : Nat) (btuple_value_f : Nat) (Atuple_value_t : Option Addr) (ctuple_value_t : Nat), cs = [.int .i64 x.page, .int .i64 x.slot, .int .i64 x.tuple.xmin, .int .i64 x.tuple.xmax, .int .i64 x.tuple.key.kind, .int .i64 x.tuple.key.n, .float .f64 btuple_key_f, .slice Atuple_key_t x.tuple.key.t.length ctuple_key_t, .int .i64 x.tuple.value.kind, .int .i64 x.tuple.value.n, .float .f64 btuple_value_f, .slice Atuple_value_t x.tuple.value.t.length ctuple_value_t] ∧ btuple_key_f < 18446744073709551616 ∧ canonF btuple_key_f = x.tuple.key.f ∧ rdRow kU8 h x.tuple.key.t (.slice Atuple_key_t x.tuple.key.t.length ctuple_key_t) ∧ btuple_value_f < 18446744073709551616 ∧ canonF btuple_value_f = x.tuple.value.f ∧ rdRow kU8 h x.tuple.value.t (.slice Atuple_value_t x.tuple.value.t.length ctuple_value_t) := by
 obtain ⟨p0, q0, rfl, r0, p1, q1, rfl, r1, r2⟩ := hx
 obtain rfl := r0
 obtain rfl := r1
 obtain ⟨btuple_key_f, Atuple_key_t, ctuple_key_t, btuple_value_f, Atuple_value_t, ctuple_value_t, rfl, hbtuple_key_f, hftuple_key_f, hrtuple_key_t, hbtuple_value_f, hftuple_value_f, hrtuple_value_t⟩ := kTu_inv r2
 exact ⟨btuple_key_f, Atuple_key_t, ctuple_key_t, btuple_value_f, Atuple_value_t, ctuple_value_t, rfl, hbtuple_key_f, hftuple_key_f, hrtuple_key_t, hbtuple_value_f, hftuple_value_f, hrtuple_value_t⟩
theorem kRw_mk {h : Hp} {page : Int} {slot : Int} {tuple_xmin : Int} {tuple_xmax : Int} {tuple_key_kind : Int} {tuple_key_n : Int} {tuple_key_f : Nat} {tuple_key_t : List Int} {tuple_value_kind : Int} {tuple_value_n : Int} {tuple_value_f : Nat} {tuple_value_t : List Int} {btuple_key_f : Nat} {vtuple_key_t : Value} {btuple_value_f : Nat} {vtuple_value_t : Value} (hbtuple_key_f : btuple_key_f < 18446744073709551616) (hftuple_key_f : canonF btuple_key_f = tuple_key_f) (hrtuple_key_t : rdRow kU8 h tuple_key_t vtuple_key_t) (hbtuple_value_f : btuple_value_f < 18446744073709551616) (hftuple_value_f : canonF btuple_value_f = tuple_value_f) (hrtuple_value_t : rdRow kU8 h tuple_value_t vtuple_value_t) : kRw.rd h ⟨page, slot, ⟨tuple_xmin, tuple_xmax, ⟨tuple_key_kind, tuple_key_n, tuple_key_f, tuple_key_t⟩, ⟨tuple_value_kind, tuple_value_n, tuple_value_f, tuple_value_t⟩⟩⟩ [.int .i64 page, .int .i64 slot, .int .i64 tuple_xmin, .int .i64 tuple_xmax, .int .i64 tuple_key_kind, .int .i64 tuple_key_n, .float .f64 btuple_key_f, vtuple_key_t, .int .i64 tuple_value_kind, .int .i64 tuple_value_n, .float .f64 btuple_value_f, vtuple_value_t] :=
 ⟨[.int .i64 page], [.int .i64 slot, .int .i64 tuple_xmin, .int .i64 tuple_xmax, .int .i64 tuple_key_kind, .int .i64 tuple_key_n, .float .f64 btuple_key_f, vtuple_key_t, .int .i64 tuple_value_kind, .int .i64 tuple_value_n, .float .f64 btuple_value_f, vtuple_value_t], rfl, rfl, ⟨[.int .i64 slot], [.int .i64 tuple_xmin, .int .i64 tuple_xmax, .int .i64 tuple_key_kind, .int .i64 tuple_key_n, .float .f64 btuple_key_f, vtuple_key_t, .int .i64 tuple_value_kind, .int .i64 tuple_value_n, .float .f64 btuple_value_f, vtuple_value_t], rfl, rfl, (kTu_mk hbtuple_key_f hftuple_key_f hrtuple_key_t hbtuple_value_f hftuple_value_f hrtuple_value_t)⟩⟩
theorem kRw_at {h : Hp} {xs : List Rw} {a : Addr} {n c : Nat} (hr : rdRow kRw h xs (.slice (some a) n c)) {i : Nat} (hi : i < xs.length) : ∃ (btuple_key_f : Nat) (Atuple_key_t : Option Addr) (ctuple_key_t : Nat) (btuple_value_f : Nat) (Atuple_value_t : Option Addr) (ctuple_value_t : Nat), btuple_key_f < 18446744073709551616 ∧ canonF btuple_key_f = xs[i].tuple.key.f ∧ rdRow kU8 h (xs[i].tuple.key.t) (.slice Atuple_key_t (xs[i].tuple.key.t).length ctuple_key_t) ∧ btuple_value_f < 18446744073709551616 ∧ canonF btuple_value_f = xs[i].tuple.value.f ∧ rdRow kU8 h (xs[i].tuple.value.t) (.slice Atuple_value_t (xs[i].tuple.value.t).length ctuple_value_t) ∧ ∀ j u, [.int .i64 xs[i].page, .int .i64 xs[i].slot, .int .i64 xs[i].tuple.xmin, .int .i64 xs[i].tuple.xmax, .int .i64 xs[i].tuple.key.kind, .int .i64 xs[i].tuple.key.n, .float .f64 btuple_key_f, .slice Atuple_key_t (xs[i].tuple.key.t).length ctuple_key_t, .int .i64 xs[i].tuple.value.kind, .int .i64 xs[i].tuple.value.n, .float .f64 btuple_value_f, .slice Atuple_value_t (xs[i].tuple.value.t).length ctuple_value_t][j]? = some u → cellH h ((a.add (i * 12)).add j) = some u := by
 obtain ⟨cs, h1, h2⟩ := rd_at hr (List.getElem?_eq_getElem hi)
 obtain ⟨btuple_key_f, Atuple_key_t, ctuple_key_t, btuple_value_f, Atuple_value_t, ctuple_value_t, rfl, hbtuple_key_f, hftuple_key_f, hrtuple_key_t, hbtuple_value_f, hftuple_value_f, hrtuple_value_t⟩ := kRw_inv h1
 exact ⟨btuple_key_f, Atuple_key_t, ctuple_key_t, btuple_value_f, Atuple_value_t, ctuple_value_t, hbtuple_key_f, hftuple_key_f, hrtuple_key_t, hbtuple_value_f, hftuple_value_f, hrtuple_value_t, h2⟩
def zTu (x : Tu) : Nat := zIt x.key + zIt x.value
def zRw (x : Rw) : Nat := zTu x.tuple
theorem kRw_own {h : Hp} {S : Nat → Prop} {x : Rw} {btuple_key_f : Nat} {Atuple_key_t : Option Addr} {ctuple_key_t : Nat} {btuple_value_f : Nat} {Atuple_value_t : Option Addr} {ctuple_value_t : Nat} (hbtuple_key_f : btuple_key_f < 18446744073709551616) (hftuple_key_f : canonF btuple_key_f = x.tuple.key.f) (hbtuple_value_f : btuple_value_f < 18446744073709551616) (hftuple_value_f : canonF btuple_value_f = x.tuple.value.f) (ho : sepL [rowA 5 kU8 x.tuple.value.t (.slice Atuple_value_t x.tuple.value.t.length ctuple_value_t), rowA 5 kU8 x.tuple.key.t (.slice Atuple_key_t x.tuple.key.t.length ctuple_key_t)] h S) : kRw.ow h S x [.int .i64 x.page, .int .i64 x.slot, .int .i64 x.tuple.xmin, .int .i64 x.tuple.xmax, .int .i64 x.tuple.key.kind, .int .i64 x.tuple.key.n, .float .f64 btuple_key_f, .slice Atuple_key_t x.tuple.key.t.length ctuple_key_t, .int .i64 x.tuple.value.kind, .int .i64 x.tuple.value.n, .float .f64 btuple_value_f, .slice Atuple_value_t x.tuple.value.t.length ctuple_value_t] := by
 obtain ⟨T0, U0, t0, u0, d0, o0, p0⟩ := ho
 have e0 := rowA_holds.1 o0
 obtain ⟨T1, U1, t1, u1, d1, o1, p1⟩ := p0
 have e1 := rowA_holds.1 o1
 have s0 : ∀ b, T0 b → S b := fun b tb => t0 b tb
 have s1 : ∀ b, T1 b → S b := fun b tb => u0 b (t1 b tb)
 have n0_1 : ∀ b, T0 b → ¬ T1 b := fun b ta tb => d0 b ta (t1 b tb)
 refine kRw.mono (S := (fun b => T1 b ∨ T0 b)) (by grind) ?_
 exact ⟨[.int .i64 x.page], [.int .i64 x.slot, .int .i64 x.tuple.xmin, .int .i64 x.tuple.xmax, .int .i64 x.tuple.key.kind, .int .i64 x.tuple.key.n, .float .f64 btuple_key_f, .slice Atuple_key_t x.tuple.key.t.length ctuple_key_t, .int .i64 x.tuple.value.kind, .int .i64 x.tuple.value.n, .float .f64 btuple_value_f, .slice Atuple_value_t x.tuple.value.t.length ctuple_value_t], rfl, (fun _ => False), (fun b => T1 b ∨ T0 b), by grind, by grind, by grind, rfl, ⟨[.int .i64 x.slot], [.int .i64 x.tuple.xmin, .int .i64 x.tuple.xmax, .int .i64 x.tuple.key.kind, .int .i64 x.tuple.key.n, .float .f64 btuple_key_f, .slice Atuple_key_t x.tuple.key.t.length ctuple_key_t, .int .i64 x.tuple.value.kind, .int .i64 x.tuple.value.n, .float .f64 btuple_value_f, .slice Atuple_value_t x.tuple.value.t.length ctuple_value_t], rfl, (fun _ => False), (fun b => T1 b ∨ T0 b), by grind, by grind, by grind, rfl, (show kTu.ow h (fun b => T1 b ∨ T0 b) (x.tuple) [.int .i64 x.tuple.xmin, .int .i64 x.tuple.xmax, .int .i64 x.tuple.key.kind, .int .i64 x.tuple.key.n, .float .f64 btuple_key_f, .slice Atuple_key_t x.tuple.key.t.length ctuple_key_t, .int .i64 x.tuple.value.kind, .int .i64 x.tuple.value.n, .float .f64 btuple_value_f, .slice Atuple_value_t x.tuple.value.t.length ctuple_value_t] from ⟨[.int .i64 x.tuple.xmin], [.int .i64 x.tuple.xmax, .int .i64 x.tuple.key.kind, .int .i64 x.tuple.key.n, .float .f64 btuple_key_f, .slice Atuple_key_t x.tuple.key.t.length ctuple_key_t, .int .i64 x.tuple.value.kind, .int .i64 x.tuple.value.n, .float .f64 btuple_value_f, .slice Atuple_value_t x.tuple.value.t.length ctuple_value_t], rfl, (fun _ => False), (fun b => T1 b ∨ T0 b), by grind, by grind, by grind, rfl, ⟨[.int .i64 x.tuple.xmax], [.int .i64 x.tuple.key.kind, .int .i64 x.tuple.key.n, .float .f64 btuple_key_f, .slice Atuple_key_t x.tuple.key.t.length ctuple_key_t, .int .i64 x.tuple.value.kind, .int .i64 x.tuple.value.n, .float .f64 btuple_value_f, .slice Atuple_value_t x.tuple.value.t.length ctuple_value_t], rfl, (fun _ => False), (fun b => T1 b ∨ T0 b), by grind, by grind, by grind, rfl, ⟨[.int .i64 x.tuple.key.kind, .int .i64 x.tuple.key.n, .float .f64 btuple_key_f, .slice Atuple_key_t x.tuple.key.t.length ctuple_key_t], [.int .i64 x.tuple.value.kind, .int .i64 x.tuple.value.n, .float .f64 btuple_value_f, .slice Atuple_value_t x.tuple.value.t.length ctuple_value_t], rfl, T1, T0, by grind, by grind, by grind, (show kIt.ow h T1 (x.tuple.key) [.int .i64 x.tuple.key.kind, .int .i64 x.tuple.key.n, .float .f64 btuple_key_f, .slice Atuple_key_t x.tuple.key.t.length ctuple_key_t] from ⟨[.int .i64 x.tuple.key.kind], [.int .i64 x.tuple.key.n, .float .f64 btuple_key_f, .slice Atuple_key_t x.tuple.key.t.length ctuple_key_t], rfl, (fun _ => False), T1, by grind, by grind, by grind, rfl, ⟨[.int .i64 x.tuple.key.n], [.float .f64 btuple_key_f, .slice Atuple_key_t x.tuple.key.t.length ctuple_key_t], rfl, (fun _ => False), T1, by grind, by grind, by grind, rfl, ⟨[.float .f64 btuple_key_f], [.slice Atuple_key_t x.tuple.key.t.length ctuple_key_t], rfl, (fun _ => False), T1, by grind, by grind, by grind, ⟨_, rfl, hbtuple_key_f, hftuple_key_f⟩, ⟨_, rfl, e1⟩⟩⟩⟩), (show kIt.ow h T0 (x.tuple.value) [.int .i64 x.tuple.value.kind, .int .i64 x.tuple.value.n, .float .f64 btuple_value_f, .slice Atuple_value_t x.tuple.value.t.length ctuple_value_t] from ⟨[.int .i64 x.tuple.value.kind], [.int .i64 x.tuple.value.n, .float .f64 btuple_value_f, .slice Atuple_value_t x.tuple.value.t.length ctuple_value_t], rfl, (fun _ => False), T0, by grind, by grind, by grind, rfl, ⟨[.int .i64 x.tuple.value.n], [.float .f64 btuple_value_f, .slice Atuple_value_t x.tuple.value.t.length ctuple_value_t], rfl, (fun _ => False), T0, by grind, by grind, by grind, rfl, ⟨[.float .f64 btuple_value_f], [.slice Atuple_value_t x.tuple.value.t.length ctuple_value_t], rfl, (fun _ => False), T0, by grind, by grind, by grind, ⟨_, rfl, hbtuple_value_f, hftuple_value_f⟩, ⟨_, rfl, e0⟩⟩⟩⟩)⟩⟩⟩)⟩⟩
def oneR (i k : Nat) (s : List Int) : List Rw := match tupR s with
 | some x => [⟨(i : Int), (k : Int), x⟩]
 | none => []
def rowsP (i : Nat) : List (List Int) → Nat → List Rw
 | [], _ => []
 | s :: r, k => oneR i k s ++ rowsP i r (k + 1)
def rowsH : List Pg → Nat → List Rw
 | [], _ => []
 | p :: r, i => rowsP i p.slots 0 ++ rowsH r (i + 1)
theorem rowsP_app (i : Nat) : ∀ (a b : List (List Int)) (k : Nat), rowsP i (a ++ b) k = rowsP i a k ++ rowsP i b (k + a.length)
 | [], b, k => by simp [rowsP]
 | s :: r, b, k => by
  simp only [List.cons_append, rowsP, rowsP_app i r b, List.append_assoc, List.length_cons]
  rw [show k + 1 + r.length = k + (r.length + 1) by omega]
theorem rowsH_app : ∀ (a b : List Pg) (k : Nat), rowsH (a ++ b) k = rowsH a k ++ rowsH b (k + a.length)
 | [], b, k => by simp [rowsH]
 | s :: r, b, k => by
  simp only [List.cons_append, rowsH, rowsH_app r b, List.append_assoc, List.length_cons]
  rw [show k + 1 + r.length = k + (r.length + 1) by omega]
theorem rowsP_take (i : Nat) {l : List (List Int)} {k : Nat} (hk : k < l.length) : rowsP i (l.take (k + 1)) 0 = rowsP i (l.take k) 0 ++ oneR i k l[k] := by
 rw [List.take_succ_eq_append_getElem hk, rowsP_app, List.length_take, Nat.min_eq_left (Nat.le_of_lt hk), Nat.zero_add]
 simp only [rowsP, List.append_nil]
theorem rowsH_take {l : List Pg} {i : Nat} (hi : i < l.length) : rowsH (l.take (i + 1)) 0 = rowsH (l.take i) 0 ++ rowsP i l[i].slots 0 := by
 rw [List.take_succ_eq_append_getElem hi, rowsH_app, List.length_take, Nat.min_eq_left (Nat.le_of_lt hi), Nat.zero_add]
 simp only [rowsH, List.append_nil]
theorem oneR_len (i k : Nat) (s : List Int) : (oneR i k s).length ≤ 1 := by
 unfold oneR
 split <;> simp
theorem rowsP_len (i : Nat) : ∀ (l : List (List Int)) (k : Nat), (rowsP i l k).length ≤ l.length
 | [], _ => Nat.le_refl _
 | s :: r, k => by
  have h1 := rowsP_len i r (k + 1)
  have h2 := oneR_len i k s
  simp only [rowsP, List.length_append, List.length_cons]
  omega
theorem rowsH_len : ∀ (l : List Pg) (k : Nat), (rowsH l k).length ≤ (l.map zPg).sum
 | [], _ => Nat.le_refl _
 | p :: r, k => by
  have h1 := rowsH_len r (k + 1)
  have h2 := rowsP_len k p.slots 0
  have h3 : zPg p = p.slots.length + (p.slots.map (fun l : List Int => l.length)).sum := rfl
  simp only [rowsH, List.length_append, List.map_cons, List.sum_cons]
  omega
theorem sum_take_le {α : Type} (z : α → Nat) (l : List α) (n : Nat) : ((l.take n).map z).sum ≤ (l.map z).sum := by
 conv => rhs; rw [← List.take_append_drop n l, List.map_append, List.sum_append]
 omega
theorem rows_bound {l : List Pg} {i : Nat} (hi : i < l.length) (k : Nat) : (rowsH (l.take i) 0).length + (rowsP i (l[i].slots.take k) 0).length ≤ (l.map zPg).sum ∧ l[i].slots.length ≤ (l.map zPg).sum := by
 have h1 := rowsH_len (l.take (i + 1)) 0
 have h2 := sum_take_le zPg l (i + 1)
 have h3 := congrArg List.length (rowsH_take hi)
 have h4 : (rowsP i l[i].slots 0).length = (rowsP i (l[i].slots.take k) 0).length + (rowsP i (l[i].slots.drop k) (0 + (l[i].slots.take k).length)).length := by
  rw [← List.length_append, ← rowsP_app, List.take_append_drop]
 have h5 := z_le zPg l (List.getElem_mem hi)
 have h6 : zPg l[i] = l[i].slots.length + (l[i].slots.map (fun l : List Int => l.length)).sum := rfl
 rw [List.length_append] at h3
 omega
def rowsK (l : List Pg) (s : List (List Int)) (i k : Nat) : List Rw := rowsH (l.take i) 0 ++ rowsP i (s.take k) 0
theorem rowsK_0 (l : List Pg) (s : List (List Int)) (i : Nat) : rowsH (l.take i) 0 = rowsK l s i 0 := by simp [rowsK, rowsP]
theorem rowsK_no {l : List Pg} {s : List (List Int)} {i k : Nat} (hk : k < s.length) (hn : (tupR s[k]).isSome = false) : rowsK l s i (k + 1) = rowsK l s i k := by
 rw [Option.isSome_eq_false_iff, Option.isNone_iff_eq_none] at hn
 unfold rowsK
 rw [rowsP_take i hk, oneR, hn, List.append_nil]
theorem rowsK_yes {l : List Pg} {s : List (List Int)} {i k : Nat} {x : Tu} (hk : k < s.length) (hx : (tupR s[k]).getD zTu0 = x) (hn : (tupR s[k]).isSome = true) : rowsK l s i (k + 1) = rowsK l s i k ++ [⟨(i : Int), (k : Int), x⟩] := by
 obtain ⟨y, hy⟩ := Option.isSome_iff_exists.1 hn
 rw [hy] at hx
 obtain rfl : y = x := hx
 unfold rowsK
 rw [rowsP_take i hk, oneR, hy, List.append_assoc]
theorem rowsK_end {l : List Pg} {i : Nat} (hi : i < l.length) : rowsK l l[i].slots i l[i].slots.length = rowsH (l.take (i + 1)) 0 := by
 unfold rowsK
 rw [rowsH_take hi, List.take_length]
theorem rowsK_len {l : List Pg} {i : Nat} (hi : i < l.length) (k : Nat) : (rowsK l l[i].slots i k).length ≤ (l.map zPg).sum := by
 unfold rowsK
 rw [List.length_append]
 exact (rows_bound hi k).1
end Go.Proofs.YtgleoebogikooaaGreat.Dk
