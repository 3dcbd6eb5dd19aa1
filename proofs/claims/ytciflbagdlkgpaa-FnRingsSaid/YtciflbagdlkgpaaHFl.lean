/- Floats as a kind that is carried: a float's cell holds its bits. No condition. -/
import Derived.Test.YtciflbagdlkgpaaWWords
import Derived.Test.YtciflbagdlkgpaaWFoot
namespace Go.Proofs.Ytciflbagdlkgpaa.HFl
open Go.RowKit Go.Proofs.YtciflbagdlkgpaaW.PrintWords

/-- A float in a cell: its bits. -/
def kfl : Kd Nat := Kd.scalar (Value.float .f64) (fun _ => rfl)
theorem kfl_heap : Kd.Heap kfl := ⟨fun _ h => h⟩
end Go.Proofs.Ytciflbagdlkgpaa.HFl
