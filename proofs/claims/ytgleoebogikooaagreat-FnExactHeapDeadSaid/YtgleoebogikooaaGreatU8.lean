/- Walks of functions of the program: what each call returns and what it leaves in memory. Conditions: those that each theorem names. -/
import Derived.Test.YtgleoebogikooaaGreatU7
namespace Go.Proofs.YtgleoebogikooaaGreat.Dk
set_option linter.unusedVariables false
set_option linter.unusedSimpArgs false
open Go.Proofs.YtgleoebogikooaaGreat.Sx Go.Proofs Go.RowKit
set_option maxRecDepth 100000
set_option maxHeartbeats 1000000
def specI (g : Int → Nat) (b : List Int) : It :=
 if b.headD 0 = 1 then ⟨1, sgn (be (b.drop 1)), 0, []⟩ else if b.headD 0 = 2 then ⟨2, 0, g (be (b.drop 1)), []⟩ else if b.headD 0 = 3 then ⟨3, 0, 0, b.drop 1⟩ else ⟨b.headD 0, 0, 0, []⟩
theorem specI_by {g : Int → Nat} {b : List Int} (h : byOk b) : byOk (specI g b).t := by
 unfold specI
 (repeat' split) <;> first | exact byOk_drop h 1 | exact fun x hx => by simp at hx
theorem specI_n {g : Int → Nat} {b : List Int} (h : byOk b) : okN (specI g b) := by
 have hb := be_bnd (byOk_drop h 1)
 unfold specI okN sgn
 (repeat' split) <;> simp only <;> omega
theorem specI_len {g : Int → Nat} {b : List Int} : (specI g b).t.length ≤ b.length := by
 unfold specI
 (repeat' split) <;> simp
theorem itB_cases {a : It} {bits : Int} {b : List Int} (h : itB a bits = b) : b.headD 0 = a.kind ∧ 0 < b.length ∧ ((a.kind = 1 ∨ a.kind = 2) → b.length = 9) := by
 subst h
 refine ⟨rfl, by simp [itB], fun hk => ?_⟩
 unfold itB
 rw [List.length_cons]
 rcases hk with hk | hk <;> simp [hk, beI_len]
theorem spec_read {g : Int → Nat} {b : List Int} (h3 : 0 ≤ (specI g b).kind ∧ (specI g b).kind ≤ 3) (hn : (specI g b).kind ≠ 0) {bits : Int} (h : itB (specI g b) bits = b) : readI g b = specI g b := by
 obtain ⟨h1, h2, h4⟩ := itB_cases h
 have hk : (specI g b).kind = b.headD 0 := h1.symm
 have z0 : ¬ b.length = 0 := by omega
 unfold readI specI
 by_cases e1 : b.headD 0 = 1
 ·have := h4 (by omega)
  simp only [if_neg z0, if_neg (show ¬ b.headD 0 = 3 by omega), if_neg (show ¬ b.length ≠ 9 by omega), if_pos e1]
 by_cases e2 : b.headD 0 = 2
 ·have := h4 (by omega)
  simp only [if_neg z0, if_neg (show ¬ b.headD 0 = 3 by omega), if_neg (show ¬ b.length ≠ 9 by omega), if_neg e1, if_pos e2]
 have e3 : b.headD 0 = 3 := by omega
 simp only [if_neg z0, if_pos e3, if_neg e1, if_neg e2]
theorem read_spec {g : Int → Nat} {b : List Int} (hn : (readI g b).kind ≠ 0) : specI g b = readI g b := by
 unfold readI at hn ⊢
 unfold specI
 by_cases z0 : b.length = 0
 ·rw [if_pos z0] at hn; exact absurd rfl hn
 by_cases e3 : b.headD 0 = 3
 ·simp only [if_neg z0, if_pos e3, if_neg (show ¬ b.headD 0 = 1 by omega), if_neg (show ¬ b.headD 0 = 2 by omega)]
 by_cases h9 : b.length ≠ 9
 ·rw [if_neg z0, if_neg e3, if_pos h9] at hn; exact absurd rfl hn
 by_cases e1 : b.headD 0 = 1
 ·simp only [if_neg z0, if_neg e3, if_neg h9, if_pos e1]
 by_cases e2 : b.headD 0 = 2
 ·simp only [if_neg z0, if_neg e3, if_neg h9, if_neg e1, if_pos e2]
 simp only [if_neg z0, if_neg e3, if_neg h9, if_neg e1, if_neg e2]
theorem keyOk_kind {a : It} (h : keyOk a = true) : a.kind ≠ 0 := by
 unfold keyOk at h
 simp only [Bool.and_eq_true, Bool.not_eq_true', decide_eq_false_iff_not] at h
 exact h.2.1
theorem valOk_kind {a : It} (h : valOk a = true) : a.kind ≠ 0 := by
 unfold valOk at h
 simp only [Bool.and_eq_true, Bool.not_eq_true', decide_eq_false_iff_not] at h
 exact h.2
theorem keyS_yes {b : List Int} (h0 : 0 < b.length) (h : keyB (specI gKey b) = b) : keyR b = some (specI gKey b) := by
 have hok : keyOk (specI gKey b) = true := by
  cases hc : keyOk (specI gKey b) with
  | true => rfl
  | false =>
   exfalso
   unfold keyB at h
   rw [hc] at h
   rw [← h] at h0
   simp at h0
 have h1 := itemOk_kind (keyOk_ok hok)
 have h2 := keyOk_kind hok
 have h' := h
 unfold keyB at h'
 rw [if_pos hok] at h'
 have e := spec_read ⟨h1.1, h1.2.1⟩ h2 h'
 rw [← e] at hok h ⊢
 exact keyR_yes hok h
theorem keyS_no {b : List Int} (h : ¬ keyB (specI gKey b) = b) : keyR b = none := by
 refine keyR_no fun hc => h ?_
 rw [read_spec (keyOk_kind hc.1)]
 exact hc.2
theorem keyR_short {b : List Int} (h : b.length < 1 ∨ 41 < b.length) : keyR b = none := by
 refine keyR_no fun hc => ?_
 have h1 := keyB_len (readI gKey b)
 have h2 := hc.2
 unfold keyB at h2
 rw [if_pos hc.1] at h2
 have h3 := itB_cases h2
 rw [hc.2] at h1
 omega
theorem valS_yes {b : List Int} (h0 : 0 < b.length) (h : valB (specI gVal b) = b) : valR b = some (specI gVal b) := by
 have hok : valOk (specI gVal b) = true := by
  cases hc : valOk (specI gVal b) with
  | true => rfl
  | false =>
   exfalso
   unfold valB at h
   rw [hc] at h
   rw [← h] at h0
   simp at h0
 have h1 := itemOk_kind (valOk_ok hok)
 have h2 := valOk_kind hok
 have h' := h
 unfold valB at h'
 rw [if_pos hok] at h'
 have e := spec_read ⟨h1.1, h1.2.1⟩ h2 h'
 rw [← e] at hok h ⊢
 exact valR_yes hok h
theorem valS_no {b : List Int} (h : ¬ valB (specI gVal b) = b) : valR b = none := by
 refine valR_no fun hc => h ?_
 rw [read_spec (valOk_kind hc.1)]
 exact hc.2
theorem valR_short {b : List Int} (h : b.length < 1 ∨ 41 < b.length) : valR b = none := by
 refine valR_no fun hc => ?_
 have h1 := valB_len (readI gVal b)
 have h2 := hc.2
 unfold valB at h2
 rw [if_pos hc.1] at h2
 have h3 := itB_cases h2
 rw [hc.2] at h1
 omega
theorem sFloatOfG_ok (n : Int) (w : World) (h0 : 0 ≤ n) (h1 : n < 18446744073709551616) : Calls Tryz.prog 80 #[.int .u64 n] w fun e w' => ∃ r : Nat, e = .returned (.float .f64 r) ∧ Below w.heap.size w w' ∧ r < 18446744073709551616 ∧ canonF r = gVal n := by
 obtain ⟨m, rfl⟩ := Int.eq_ofNat_of_zero_le h0
 exact sFloatOf_ok m w (by omega)
end Go.Proofs.YtgleoebogikooaaGreat.Dk
