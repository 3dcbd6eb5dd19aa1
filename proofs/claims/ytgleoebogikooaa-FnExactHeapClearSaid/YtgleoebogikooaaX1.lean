/- Walks of functions of the program: what each call returns and what it leaves in memory. Conditions: those that each theorem names. -/
import Derived.Test.YtgleoebogikooaaW2
namespace Go.Proofs.Ytgleoebogikooaa.Dk
set_option linter.unusedVariables false
set_option linter.unusedSimpArgs false
open Go.Proofs.Ytgleoebogikooaa.Sx Go.Proofs Go.RowKit
set_option maxRecDepth 100000
set_option maxHeartbeats 1000000
theorem pgU_bnd (p : Pg) : -1 ≤ pgU p ∧ pgU p ≤ 240 := by
  unfold pgU
  split
  · rename_i h; have := h.2.2.2.1; omega
  · omega
end Go.Proofs.Ytgleoebogikooaa.Dk
