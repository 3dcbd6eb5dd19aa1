/- Floats as a kind that is carried: a float's cell holds its bits. No condition. -/
import Derived.Test.YtadbcjeelbkfcaaWWords
import Derived.Test.YtadbcjeelbkfcaaWFoot
namespace Go.Proofs.Ytadbcjeelbkfcaa.HFl
open Go.RowKit Go.Proofs.YtadbcjeelbkfcaaW.PrintWords

/-- A float in a cell: its bits. -/
def kfl : Kd Nat := Kd.scalar (Value.float .f64) (fun _ => rfl)
theorem kfl_heap : Kd.Heap kfl := ⟨fun _ h => h⟩
end Go.Proofs.Ytadbcjeelbkfcaa.HFl
