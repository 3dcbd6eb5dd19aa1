/- Walks of functions of the program: what each call returns and what it leaves in memory. Conditions: those that each theorem names. -/
import Derived.Test.YtgleoebogikooaaGreatT9
namespace Go.Proofs.YtgleoebogikooaaGreat.Dk
set_option linter.unusedVariables false
set_option linter.unusedSimpArgs false
open Go.Proofs.YtgleoebogikooaaGreat.Sx Go.Proofs Go.RowKit
set_option maxRecDepth 100000
set_option maxHeartbeats 1000000
theorem rowsQ_R (h : He) (q : Tu → Bool) : rowsQ h q = (rowsR h).filter (fun r => q r.tuple) := by
 unfold rowsQ rowsR
 split <;> rfl
theorem outs_step {l : List (Rw × RC)} {q : Rw × RC → Bool} {i : Nat} (h : i < l.length) (hq : q l[i] = true) : ((l.take i).filter q).map Prod.snd ++ [l[i].2] = ((l.take (i + 1)).filter q).map Prod.snd := by
 rw [List.take_succ_eq_append_getElem h, List.filter_append, List.map_append]
 simp [hq]
theorem outs_skip {l : List (Rw × RC)} {q : Rw × RC → Bool} {i : Nat} (h : i < l.length) (hq : q l[i] = false) : ((l.take i).filter q).map Prod.snd = ((l.take (i + 1)).filter q).map Prod.snd := by
 rw [List.take_succ_eq_append_getElem h, List.filter_append, List.map_append]
 simp [hq]
theorem outs_len {l : List (Rw × RC)} {q : Rw × RC → Bool} (i : Nat) : (((l.take i).filter q).map Prod.snd).length ≤ l.length := by
 rw [List.length_map]
 exact Nat.le_trans (List.length_filter_le _ _) (by rw [List.length_take]; omega)
end Go.Proofs.YtgleoebogikooaaGreat.Dk
