/- Floats as a kind that is carried: a float's cell holds its bits; the operations that the walk takes. No condition. -/
import Derived.Test.YtjhokmpmecjdhaaWWords
import Derived.Test.YtjhokmpmecjdhaaWFoot
import Derived.Test.YtjhokmpmecjdhaaProg
import Derived.Test.YtjhokmpmecjdhaaHFloat
import Derived.Laws.Externs
import Derived.Laws.Bits64b
namespace Go.Proofs.Ytjhokmpmecjdhaa.HFl
open Go.RowKit Go.Proofs.YtjhokmpmecjdhaaW.PrintWords

/-- A float in a cell: its bits. -/
def kfl : Kd Nat := Kd.scalar (Value.float .f64) (fun _ => rfl)
theorem kfl_heap : Kd.Heap kfl := ⟨fun _ h => h⟩
/-- A float stored into a cell. -/
@[go_sem] theorem run_store_float {P : Program} {w : World} {a : Addr} {m : Mode} (k : FloatKind) (n : Nat) : (store a (.float k n) m).run P w = stored P w a (.float k n) m := run_store P w a _ m rfl
section
variable {P : Program} {t : TypeId} (x y : Nat) (w : World)
@[go_sem] theorem run_eql_float : (binOp .eql t (.float .f64 x) (.float .f64 y)).run P w = .ok (.bool (HFloat.feq x y)) w := by rw [HFloat.feq_eq]; simp [binOp, Op.floatCmp]
@[go_sem] theorem run_neq_float : (binOp .neq t (.float .f64 x) (.float .f64 y)).run P w = .ok (.bool (!HFloat.feq x y)) w := by rw [HFloat.feq_eq]; simp [binOp, Op.floatCmp]; rfl
@[go_sem] theorem run_lss_float : (binOp .lss t (.float .f64 x) (.float .f64 y)).run P w = .ok (.bool (HFloat.flt x y)) w := by rw [HFloat.flt_eq]; simp [binOp, Op.floatCmp]
@[go_sem] theorem run_leq_float : (binOp .leq t (.float .f64 x) (.float .f64 y)).run P w = .ok (.bool (HFloat.flt x y || HFloat.feq x y)) w := by rw [HFloat.flt_eq, HFloat.feq_eq]; simp [binOp, Op.floatCmp]
@[go_sem] theorem run_gtr_float : (binOp .gtr t (.float .f64 x) (.float .f64 y)).run P w = .ok (.bool (HFloat.fgt x y)) w := by rw [HFloat.fgt_eq]; simp [binOp, Op.floatCmp]
@[go_sem] theorem run_geq_float : (binOp .geq t (.float .f64 x) (.float .f64 y)).run P w = .ok (.bool (HFloat.fgt x y || HFloat.feq x y)) w := by rw [HFloat.fgt_eq, HFloat.feq_eq]; simp [binOp, Op.floatCmp]
@[go_sem] theorem run_neg_float (k : FloatKind) : (Op.unary .neg (.float k x)).run P w = .ok (.float k (Op.negFloat k x)) w := by simp [Op.unary]
end

end Go.Proofs.Ytjhokmpmecjdhaa.HFl
