/- What the arguments of FnExactVisible read as, opened. -/
import Derived.Test.YtadbcjeelbkfcaaHOpen
import Derived.Test.YtadbcjeelbkfcaaPFnExactVisiblex3
namespace Go.Proofs.Ytadbcjeelbkfcaa.PFnExactVisible
open Go.RowKit Go.Proofs.YtadbcjeelbkfcaaW.PrintWords Go.Proofs.Ytadbcjeelbkfcaa
set_option linter.unusedVariables false
/-! #### struct type 39 -/
structure S39 where
  f0 : Int
  f1 : (List Int)
def z39 : S39 := ⟨(0 : Int), ([] : List Int)⟩
def k39 : Kd S39 := Kd.iso (Kd.pair (Kd.int .i64) (Kd.slice 3 (Kd.int .i64))) (fun x : S39 => (x.f0, x.f1))
theorem k39_open {w : World} {x : S39} {cs : List Value} (h : k39.K w x cs) : ∃ A1 c1, cs = [.int .i64 x.f0, .slice A1 x.f1.length c1] ∧ x.f1.length ≤ c1 ∧ (Kd.int .i64).C w A1 x.f1.length x.f1 := by
  obtain ⟨_, _, rfl, rfl, ⟨A1, c1, rfl, l1, g1⟩⟩ := h
  exact ⟨A1, c1, rfl, l1, g1⟩
theorem k39_openM {w : World} {base : Nat} {ok : Nat → Prop} {x : S39} {cs : List Value} (h : k39.M w base ok x cs) : ∃ v1, cs = [.int .i64 x.f0, v1] ∧ (Kd.int .i64).R 3 w base ok v1 x.f1 := by
  obtain ⟨_, _, rfl, rfl, ⟨v1, rfl, g1⟩⟩ := h
  exact ⟨v1, rfl, g1⟩
theorem k39_mk (w : World) (x : S39) {A1 : Option Addr} {c1 : Nat} (l1 : x.f1.length ≤ c1) (g1 : (Kd.int .i64).C w A1 x.f1.length x.f1) : k39.K w x [.int .i64 x.f0, .slice A1 x.f1.length c1] := ⟨[.int .i64 x.f0], [.slice A1 x.f1.length c1], rfl, rfl, ⟨A1, c1, rfl, l1, g1⟩⟩
theorem k39_mkM (w : World) (base : Nat) (ok : Nat → Prop) (x : S39) {v1 : Value} (g1 : (Kd.int .i64).R 3 w base ok v1 x.f1) : k39.M w base ok x [.int .i64 x.f0, v1] := ⟨[.int .i64 x.f0], [v1], rfl, rfl, ⟨v1, rfl, g1⟩⟩
def rd_T39 (xs : List S39) (i : Int) : S39 := xs.getD i.toNat z39
theorem at_T39 {w : World} {A : Option Addr} {n : Nat} {xs : List S39} (h : Kd.C k39 w A n xs) (i : Int) (h0 : 0 ≤ i) (h1 : i < n) : ∃ ad A1 c1, A = some ad ∧ w.cell? (ad.add (i.toNat * 2)) = some (.int .i64 (rd_T39 xs i).f0) ∧ w.cell? ⟨(ad.add (i.toNat * 2)).block, (ad.add (i.toNat * 2)).off + 1, none⟩ = some (.slice A1 (rd_T39 xs i).f1.length c1) ∧ (rd_T39 xs i).f1.length ≤ c1 ∧ (Kd.int .i64).C w A1 (rd_T39 xs i).f1.length (rd_T39 xs i).f1 := by
  obtain ⟨ad, c, e, _, hK, hc0⟩ := Kd.C_get h z39 i h0 h1
  have hc : ∀ j u, c[j]? = some u → w.cell? (ad.add (i.toNat * 2 + j)) = some u := hc0
  obtain ⟨A1, c1, rfl, l1, g1⟩ := k39_open hK
  exact ⟨ad, A1, c1, e, hc 0 _ rfl, by rw [← add_field _ _ 1 (by omega)]; exact hc 1 _ rfl, l1, g1⟩

def ok39 (x : S39) : Prop := ((Lit.int .i64 x.f0).wf = true) ∧ ((x.f1.length ≤ 9223372036854775807 ∧ ∀ y_x_f1 ∈ x.f1, (Lit.int .i64 y_x_f1).wf = true))
set_option maxRecDepth 100000 in
theorem opens39 : HOpen.Opens Try.prog 39 k39 ok39 :=
  HOpen.opens_struct Try.underlying39 (by kernel_rfl) (HOpen.opensF_cons rfl rfl (HOpen.opens_int Try.underlying3 (by kernel_rfl)) (by decide) (HOpen.opensF_one rfl (HOpen.opens_slice 3 Try.underlying30 (by kernel_rfl) (HOpen.opens_int Try.underlying3 (by kernel_rfl))))) (fun y h => ⟨⟨y.1, y.2⟩, rfl, by exact h⟩)
end Go.Proofs.Ytadbcjeelbkfcaa.PFnExactVisible
