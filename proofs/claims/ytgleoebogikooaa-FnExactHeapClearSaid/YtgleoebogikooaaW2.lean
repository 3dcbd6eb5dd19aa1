/- Walks of functions of the program: what each call returns and what it leaves in memory. Conditions: those that each theorem names. -/
import Derived.Test.YtgleoebogikooaaW1
namespace Go.Proofs.Ytgleoebogikooaa.Dk
set_option linter.unusedVariables false
set_option linter.unusedSimpArgs false
open Go.Proofs.Ytgleoebogikooaa.Sx Go.Proofs Go.RowKit
set_option maxRecDepth 100000
set_option maxHeartbeats 1000000
theorem byHe_of {h : He} (hz : zHe h ≤ 1048576) (hby : ∀ p ∈ h.pages, ∀ s ∈ p.slots, byOk s) : byHe h := fun p hp => by
  have hzh : zHe h = h.pages.length + (h.pages.map zPg).sum := rfl
  have h1 := z_le zPg h.pages hp
  have h2 : zPg p = p.slots.length + (p.slots.map (fun l => l.length)).sum := rfl
  refine ⟨by omega, fun s hs => ⟨hby p hp s hs, ?_⟩⟩
  have h3 := z_le (fun l : List Int => l.length) p.slots hs
  omega
end Go.Proofs.Ytgleoebogikooaa.Dk
