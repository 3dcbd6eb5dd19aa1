/- Walks of functions of the program: what each call returns and what it leaves in memory. Conditions: those that each theorem names. -/
import Derived.Test.YtgleoebogikooaaGreatTb
namespace Go.Proofs.YtgleoebogikooaaGreat.Dk
set_option linter.unusedVariables false
set_option linter.unusedSimpArgs false
open Go.Proofs.YtgleoebogikooaaGreat.Sx Go.Proofs Go.RowKit
set_option maxRecDepth 100000
set_option maxHeartbeats 1000000
theorem rowsQ_len (h : He) (q : Tu → Bool) : (rowsQ h q).length ≤ 256 := by
 rw [rowsQ_R]
 exact Nat.le_trans (List.length_filter_le _ _) (rowsR_len h)
theorem rowsQ_sl (h : He) (q : Tu → Bool) : ∀ r ∈ rowsQ h q, r.tuple.key.t.length ≤ 40 ∧ r.tuple.value.t.length ≤ 40 := fun r hr => by
 rw [rowsQ_R] at hr
 exact rowsR_sl h r (List.mem_filter.1 hr).1
end Go.Proofs.YtgleoebogikooaaGreat.Dk
