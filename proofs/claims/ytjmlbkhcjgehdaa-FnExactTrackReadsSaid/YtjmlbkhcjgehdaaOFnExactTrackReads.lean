/- What the arguments of FnExactTrackReads read as, opened. -/
import Derived.Test.YtjmlbkhcjgehdaaVH
import Derived.Test.YtjmlbkhcjgehdaaPFnExactTrackReadsx8
namespace Go.Proofs.Ytjmlbkhcjgehdaa.PFnExactTrackReads
open Go.RowKit Go.Proofs.YtjmlbkhcjgehdaaW.PrintWords Go.Proofs.Ytjmlbkhcjgehdaa Go.Proofs.Ytjmlbkhcjgehdaa.HFl
set_option linter.unusedVariables false
/-! #### struct type 55 -/
structure S55 where
  f0 : Int
  f1 : Int
  f2 : Int
  f3 : Bool
  f4 : (List S34)
  f5 : (List S25)
  f6 : Bool
  f7 : Bool
def z55 : S55 := ⟨(0 : Int), (0 : Int), (0 : Int), false, ([] : List S34), ([] : List S25), false, false⟩
def k55 : Kd S55 := Kd.iso (Kd.pair (Kd.int .i64) (Kd.pair (Kd.int .i64) (Kd.pair (Kd.int .i64) (Kd.pair Kd.bool (Kd.pair (Kd.slice 34 k34) (Kd.pair (Kd.slice 25 k25) (Kd.pair Kd.bool Kd.bool))))))) (fun x : S55 => (x.f0, x.f1, x.f2, x.f3, x.f4, x.f5, x.f6, x.f7))
theorem k55_open {w : World} {x : S55} {cs : List Value} (h : k55.K w x cs) : ∃ A4 c4 A5 c5, cs = [.int .i64 x.f0, .int .i64 x.f1, .int .i64 x.f2, .bool x.f3, .slice A4 x.f4.length c4, .slice A5 x.f5.length c5, .bool x.f6, .bool x.f7] ∧ x.f4.length ≤ c4 ∧ k34.C w A4 x.f4.length x.f4 ∧ x.f5.length ≤ c5 ∧ k25.C w A5 x.f5.length x.f5 := by
  obtain ⟨_, _, rfl, rfl, ⟨_, _, rfl, rfl, ⟨_, _, rfl, rfl, ⟨_, _, rfl, rfl, ⟨_, _, rfl, ⟨A4, c4, rfl, l4, g4⟩, ⟨_, _, rfl, ⟨A5, c5, rfl, l5, g5⟩, ⟨_, _, rfl, rfl, rfl⟩⟩⟩⟩⟩⟩⟩ := h
  exact ⟨A4, c4, A5, c5, rfl, l4, g4, l5, g5⟩
theorem k55_openM {w : World} {base : Nat} {ok : Nat → Prop} {x : S55} {cs : List Value} (h : k55.M w base ok x cs) : ∃ v4 v5, cs = [.int .i64 x.f0, .int .i64 x.f1, .int .i64 x.f2, .bool x.f3, v4, v5, .bool x.f6, .bool x.f7] ∧ k34.R 34 w base ok v4 x.f4 ∧ k25.R 25 w base ok v5 x.f5 := by
  obtain ⟨_, _, rfl, rfl, ⟨_, _, rfl, rfl, ⟨_, _, rfl, rfl, ⟨_, _, rfl, rfl, ⟨_, _, rfl, ⟨v4, rfl, g4⟩, ⟨_, _, rfl, ⟨v5, rfl, g5⟩, ⟨_, _, rfl, rfl, rfl⟩⟩⟩⟩⟩⟩⟩ := h
  exact ⟨v4, v5, rfl, g4, g5⟩
theorem k55_mk (w : World) (x : S55) {A4 : Option Addr} {c4 : Nat} (l4 : x.f4.length ≤ c4) (g4 : k34.C w A4 x.f4.length x.f4) {A5 : Option Addr} {c5 : Nat} (l5 : x.f5.length ≤ c5) (g5 : k25.C w A5 x.f5.length x.f5) : k55.K w x [.int .i64 x.f0, .int .i64 x.f1, .int .i64 x.f2, .bool x.f3, .slice A4 x.f4.length c4, .slice A5 x.f5.length c5, .bool x.f6, .bool x.f7] := ⟨[.int .i64 x.f0], [.int .i64 x.f1, .int .i64 x.f2, .bool x.f3, .slice A4 x.f4.length c4, .slice A5 x.f5.length c5, .bool x.f6, .bool x.f7], rfl, rfl, ⟨[.int .i64 x.f1], [.int .i64 x.f2, .bool x.f3, .slice A4 x.f4.length c4, .slice A5 x.f5.length c5, .bool x.f6, .bool x.f7], rfl, rfl, ⟨[.int .i64 x.f2], [.bool x.f3, .slice A4 x.f4.length c4, .slice A5 x.f5.length c5, .bool x.f6, .bool x.f7], rfl, rfl, ⟨[.bool x.f3], [.slice A4 x.f4.length c4, .slice A5 x.f5.length c5, .bool x.f6, .bool x.f7], rfl, rfl, ⟨[.slice A4 x.f4.length c4], [.slice A5 x.f5.length c5, .bool x.f6, .bool x.f7], rfl, ⟨A4, c4, rfl, l4, g4⟩, ⟨[.slice A5 x.f5.length c5], [.bool x.f6, .bool x.f7], rfl, ⟨A5, c5, rfl, l5, g5⟩, ⟨[.bool x.f6], [.bool x.f7], rfl, rfl, rfl⟩⟩⟩⟩⟩⟩⟩
theorem k55_mkM (w : World) (base : Nat) (ok : Nat → Prop) (x : S55) {v4 : Value} (g4 : k34.R 34 w base ok v4 x.f4) {v5 : Value} (g5 : k25.R 25 w base ok v5 x.f5) : k55.M w base ok x [.int .i64 x.f0, .int .i64 x.f1, .int .i64 x.f2, .bool x.f3, v4, v5, .bool x.f6, .bool x.f7] := ⟨[.int .i64 x.f0], [.int .i64 x.f1, .int .i64 x.f2, .bool x.f3, v4, v5, .bool x.f6, .bool x.f7], rfl, rfl, ⟨[.int .i64 x.f1], [.int .i64 x.f2, .bool x.f3, v4, v5, .bool x.f6, .bool x.f7], rfl, rfl, ⟨[.int .i64 x.f2], [.bool x.f3, v4, v5, .bool x.f6, .bool x.f7], rfl, rfl, ⟨[.bool x.f3], [v4, v5, .bool x.f6, .bool x.f7], rfl, rfl, ⟨[v4], [v5, .bool x.f6, .bool x.f7], rfl, ⟨v4, rfl, g4⟩, ⟨[v5], [.bool x.f6, .bool x.f7], rfl, ⟨v5, rfl, g5⟩, ⟨[.bool x.f6], [.bool x.f7], rfl, rfl, rfl⟩⟩⟩⟩⟩⟩⟩
def rd_T55 (xs : List S55) (i : Int) : S55 := xs.getD i.toNat z55
theorem at_T55 {w : World} {A : Option Addr} {n : Nat} {xs : List S55} (h : Kd.C k55 w A n xs) (i : Int) (h0 : 0 ≤ i) (h1 : i < n) : ∃ ad A4 c4 A5 c5, A = some ad ∧ w.cell? (ad.add (i.toNat * 8)) = some (.int .i64 (rd_T55 xs i).f0) ∧ w.cell? ⟨(ad.add (i.toNat * 8)).block, (ad.add (i.toNat * 8)).off + 1, none⟩ = some (.int .i64 (rd_T55 xs i).f1) ∧ w.cell? ⟨(ad.add (i.toNat * 8)).block, (ad.add (i.toNat * 8)).off + 2, none⟩ = some (.int .i64 (rd_T55 xs i).f2) ∧ w.cell? ⟨(ad.add (i.toNat * 8)).block, (ad.add (i.toNat * 8)).off + 3, none⟩ = some (.bool (rd_T55 xs i).f3) ∧ w.cell? ⟨(ad.add (i.toNat * 8)).block, (ad.add (i.toNat * 8)).off + 4, none⟩ = some (.slice A4 (rd_T55 xs i).f4.length c4) ∧ w.cell? ⟨(ad.add (i.toNat * 8)).block, (ad.add (i.toNat * 8)).off + 5, none⟩ = some (.slice A5 (rd_T55 xs i).f5.length c5) ∧ w.cell? ⟨(ad.add (i.toNat * 8)).block, (ad.add (i.toNat * 8)).off + 6, none⟩ = some (.bool (rd_T55 xs i).f6) ∧ w.cell? ⟨(ad.add (i.toNat * 8)).block, (ad.add (i.toNat * 8)).off + 7, none⟩ = some (.bool (rd_T55 xs i).f7) ∧ (rd_T55 xs i).f4.length ≤ c4 ∧ k34.C w A4 (rd_T55 xs i).f4.length (rd_T55 xs i).f4 ∧ (rd_T55 xs i).f5.length ≤ c5 ∧ k25.C w A5 (rd_T55 xs i).f5.length (rd_T55 xs i).f5 := by
  obtain ⟨ad, c, e, _, hK, hc0⟩ := Kd.C_get h z55 i h0 h1
  have hc : ∀ j u, c[j]? = some u → w.cell? (ad.add (i.toNat * 8 + j)) = some u := hc0
  obtain ⟨A4, c4, A5, c5, rfl, l4, g4, l5, g5⟩ := k55_open hK
  exact ⟨ad, A4, c4, A5, c5, e, hc 0 _ rfl, by rw [← add_field _ _ 1 (by omega)]; exact hc 1 _ rfl, by rw [← add_field _ _ 2 (by omega)]; exact hc 2 _ rfl, by rw [← add_field _ _ 3 (by omega)]; exact hc 3 _ rfl, by rw [← add_field _ _ 4 (by omega)]; exact hc 4 _ rfl, by rw [← add_field _ _ 5 (by omega)]; exact hc 5 _ rfl, by rw [← add_field _ _ 6 (by omega)]; exact hc 6 _ rfl, by rw [← add_field _ _ 7 (by omega)]; exact hc 7 _ rfl, l4, g4, l5, g5⟩

def ok25 (x : S25) : Prop := ((Lit.int .i64 x.f0).wf = true) ∧ ((Lit.int .i64 x.f1).wf = true) ∧ (x.f2 < 2 ^ 64) ∧ ((x.f3.length ≤ 9223372036854775807 ∧ ∀ y_x_f3 ∈ x.f3, (Lit.int .u8 y_x_f3).wf = true))
set_option maxRecDepth 100000 in
theorem opens25 : HOpen.Opens Try.prog 25 k25 ok25 :=
  HOpen.opens_struct Try.underlying25 (by kernel_rfl) (HOpen.opensF_cons rfl rfl (HOpen.opens_int Try.underlying3 (by kernel_rfl)) (by decide) (HOpen.opensF_cons rfl rfl (HOpen.opens_int Try.underlying3 (by kernel_rfl)) (by decide) (HOpen.opensF_cons rfl rfl (HOpen.opens_float Try.underlying22 (by kernel_rfl)) (by decide) (HOpen.opensF_one rfl (HOpen.opens_slice 5 Try.underlying23 (by kernel_rfl) (HOpen.opens_int Try.underlying5 (by kernel_rfl))))))) (fun y h => ⟨⟨y.1, y.2.1, y.2.2.1, y.2.2.2⟩, rfl, by exact h⟩)
def ok34 (x : S34) : Prop := (ok25 x.f0) ∧ (ok25 x.f1)
set_option maxRecDepth 100000 in
theorem opens34 : HOpen.Opens Try.prog 34 k34 ok34 :=
  HOpen.opens_struct Try.underlying34 (by kernel_rfl) (HOpen.opensF_cons rfl rfl opens25 (by decide) (HOpen.opensF_one rfl opens25)) (fun y h => ⟨⟨y.1, y.2⟩, rfl, by exact h⟩)
def ok55 (x : S55) : Prop := ((Lit.int .i64 x.f0).wf = true) ∧ ((Lit.int .i64 x.f1).wf = true) ∧ ((Lit.int .i64 x.f2).wf = true) ∧ (True) ∧ ((x.f4.length ≤ 9223372036854775807 ∧ ∀ y_x_f4 ∈ x.f4, ok34 y_x_f4)) ∧ ((x.f5.length ≤ 9223372036854775807 ∧ ∀ y_x_f5 ∈ x.f5, ok25 y_x_f5)) ∧ (True) ∧ (True)
set_option maxRecDepth 100000 in
theorem opens55 : HOpen.Opens Try.prog 55 k55 ok55 :=
  HOpen.opens_struct Try.underlying55 (by kernel_rfl) (HOpen.opensF_cons rfl rfl (HOpen.opens_int Try.underlying3 (by kernel_rfl)) (by decide) (HOpen.opensF_cons rfl rfl (HOpen.opens_int Try.underlying3 (by kernel_rfl)) (by decide) (HOpen.opensF_cons rfl rfl (HOpen.opens_int Try.underlying3 (by kernel_rfl)) (by decide) (HOpen.opensF_cons rfl rfl (HOpen.opens_bool Try.underlying4 (by kernel_rfl)) (by decide) (HOpen.opensF_cons rfl rfl (HOpen.opens_slice 34 Try.underlying52 (by kernel_rfl) opens34) (by decide) (HOpen.opensF_cons rfl rfl (HOpen.opens_slice 25 Try.underlying53 (by kernel_rfl) opens25) (by decide) (HOpen.opensF_cons rfl rfl (HOpen.opens_bool Try.underlying4 (by kernel_rfl)) (by decide) (HOpen.opensF_one rfl (HOpen.opens_bool Try.underlying4 (by kernel_rfl)))))))))) (fun y h => ⟨⟨y.1, y.2.1, y.2.2.1, y.2.2.2.1, y.2.2.2.2.1, y.2.2.2.2.2.1, y.2.2.2.2.2.2.1, y.2.2.2.2.2.2.2⟩, rfl, by exact h⟩)
end Go.Proofs.Ytjmlbkhcjgehdaa.PFnExactTrackReads
