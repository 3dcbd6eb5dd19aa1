/- What the arguments of FnExactItemClean read as, opened. -/
import Derived.Test.YtjmlbkhcjgehdaaVH
import Derived.Test.YtjmlbkhcjgehdaaPFnExactItemCleanx4
namespace Go.Proofs.Ytjmlbkhcjgehdaa.PFnExactItemClean
open Go.RowKit Go.Proofs.YtjmlbkhcjgehdaaW.PrintWords Go.Proofs.Ytjmlbkhcjgehdaa Go.Proofs.Ytjmlbkhcjgehdaa.HFl
set_option linter.unusedVariables false
/-! #### struct type 25 -/
structure S25 where
  f0 : Int
  f1 : Int
  f2 : Nat
  f3 : (List Int)
def z25 : S25 := ⟨(0 : Int), (0 : Int), (0 : Nat), ([] : List Int)⟩
def k25 : Kd S25 := Kd.iso (Kd.pair (Kd.int .i64) (Kd.pair (Kd.int .i64) (Kd.pair kfl (Kd.slice 5 (Kd.int .u8))))) (fun x : S25 => (x.f0, x.f1, x.f2, x.f3))
theorem k25_open {w : World} {x : S25} {cs : List Value} (h : k25.K w x cs) : ∃ A3 c3, cs = [.int .i64 x.f0, .int .i64 x.f1, .float .f64 x.f2, .slice A3 x.f3.length c3] ∧ x.f3.length ≤ c3 ∧ (Kd.int .u8).C w A3 x.f3.length x.f3 := by
  obtain ⟨_, _, rfl, rfl, ⟨_, _, rfl, rfl, ⟨_, _, rfl, rfl, ⟨A3, c3, rfl, l3, g3⟩⟩⟩⟩ := h
  exact ⟨A3, c3, rfl, l3, g3⟩
theorem k25_openM {w : World} {base : Nat} {ok : Nat → Prop} {x : S25} {cs : List Value} (h : k25.M w base ok x cs) : ∃ v3, cs = [.int .i64 x.f0, .int .i64 x.f1, .float .f64 x.f2, v3] ∧ (Kd.int .u8).R 5 w base ok v3 x.f3 := by
  obtain ⟨_, _, rfl, rfl, ⟨_, _, rfl, rfl, ⟨_, _, rfl, rfl, ⟨v3, rfl, g3⟩⟩⟩⟩ := h
  exact ⟨v3, rfl, g3⟩
theorem k25_mk (w : World) (x : S25) {A3 : Option Addr} {c3 : Nat} (l3 : x.f3.length ≤ c3) (g3 : (Kd.int .u8).C w A3 x.f3.length x.f3) : k25.K w x [.int .i64 x.f0, .int .i64 x.f1, .float .f64 x.f2, .slice A3 x.f3.length c3] := ⟨[.int .i64 x.f0], [.int .i64 x.f1, .float .f64 x.f2, .slice A3 x.f3.length c3], rfl, rfl, ⟨[.int .i64 x.f1], [.float .f64 x.f2, .slice A3 x.f3.length c3], rfl, rfl, ⟨[.float .f64 x.f2], [.slice A3 x.f3.length c3], rfl, rfl, ⟨A3, c3, rfl, l3, g3⟩⟩⟩⟩
theorem k25_mkM (w : World) (base : Nat) (ok : Nat → Prop) (x : S25) {v3 : Value} (g3 : (Kd.int .u8).R 5 w base ok v3 x.f3) : k25.M w base ok x [.int .i64 x.f0, .int .i64 x.f1, .float .f64 x.f2, v3] := ⟨[.int .i64 x.f0], [.int .i64 x.f1, .float .f64 x.f2, v3], rfl, rfl, ⟨[.int .i64 x.f1], [.float .f64 x.f2, v3], rfl, rfl, ⟨[.float .f64 x.f2], [v3], rfl, rfl, ⟨v3, rfl, g3⟩⟩⟩⟩
def rd_T25 (xs : List S25) (i : Int) : S25 := xs.getD i.toNat z25
theorem at_T25 {w : World} {A : Option Addr} {n : Nat} {xs : List S25} (h : Kd.C k25 w A n xs) (i : Int) (h0 : 0 ≤ i) (h1 : i < n) : ∃ ad A3 c3, A = some ad ∧ w.cell? (ad.add (i.toNat * 4)) = some (.int .i64 (rd_T25 xs i).f0) ∧ w.cell? ⟨(ad.add (i.toNat * 4)).block, (ad.add (i.toNat * 4)).off + 1, none⟩ = some (.int .i64 (rd_T25 xs i).f1) ∧ w.cell? ⟨(ad.add (i.toNat * 4)).block, (ad.add (i.toNat * 4)).off + 2, none⟩ = some (.float .f64 (rd_T25 xs i).f2) ∧ w.cell? ⟨(ad.add (i.toNat * 4)).block, (ad.add (i.toNat * 4)).off + 3, none⟩ = some (.slice A3 (rd_T25 xs i).f3.length c3) ∧ (rd_T25 xs i).f3.length ≤ c3 ∧ (Kd.int .u8).C w A3 (rd_T25 xs i).f3.length (rd_T25 xs i).f3 := by
  obtain ⟨ad, c, e, _, hK, hc0⟩ := Kd.C_get h z25 i h0 h1
  have hc : ∀ j u, c[j]? = some u → w.cell? (ad.add (i.toNat * 4 + j)) = some u := hc0
  obtain ⟨A3, c3, rfl, l3, g3⟩ := k25_open hK
  exact ⟨ad, A3, c3, e, hc 0 _ rfl, by rw [← add_field _ _ 1 (by omega)]; exact hc 1 _ rfl, by rw [← add_field _ _ 2 (by omega)]; exact hc 2 _ rfl, by rw [← add_field _ _ 3 (by omega)]; exact hc 3 _ rfl, l3, g3⟩

def ok25 (x : S25) : Prop := ((Lit.int .i64 x.f0).wf = true) ∧ ((Lit.int .i64 x.f1).wf = true) ∧ (x.f2 < 2 ^ 64) ∧ ((x.f3.length ≤ 9223372036854775807 ∧ ∀ y_x_f3 ∈ x.f3, (Lit.int .u8 y_x_f3).wf = true))
set_option maxRecDepth 100000 in
theorem opens25 : HOpen.Opens Try.prog 25 k25 ok25 :=
  HOpen.opens_struct Try.underlying25 (by kernel_rfl) (HOpen.opensF_cons rfl rfl (HOpen.opens_int Try.underlying3 (by kernel_rfl)) (by decide) (HOpen.opensF_cons rfl rfl (HOpen.opens_int Try.underlying3 (by kernel_rfl)) (by decide) (HOpen.opensF_cons rfl rfl (HOpen.opens_float Try.underlying22 (by kernel_rfl)) (by decide) (HOpen.opensF_one rfl (HOpen.opens_slice 5 Try.underlying23 (by kernel_rfl) (HOpen.opens_int Try.underlying5 (by kernel_rfl))))))) (fun y h => ⟨⟨y.1, y.2.1, y.2.2.1, y.2.2.2⟩, rfl, by exact h⟩)
end Go.Proofs.Ytjmlbkhcjgehdaa.PFnExactItemClean
