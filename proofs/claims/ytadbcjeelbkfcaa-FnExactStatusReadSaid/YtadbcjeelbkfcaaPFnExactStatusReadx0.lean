-- Written by hv.py, a program of this session's own, over the kit's print: FnExactStatusRead
import Derived.Test.YtadbcjeelbkfcaaProg
import Derived.Below
import Derived.Deep.Draws
import Derived.Deep.AppendLies
import Derived.Maps.AppendAt
import Derived.OwnWalk
import Derived.Laws.BytesArg
import Derived.Laws.MakeOwn
import Derived.Laws.OwnMore
import Derived.Deep.OwnRows
import Derived.Tactics
import Derived.Lib.ConvBytes
import Derived.Laws.Slices
import Derived.WalkKit
import Derived.KernelRfl
import Derived.RowKit3
import Derived.Deep.LoopGhost
import Derived.Deep.QuietTactic
import Derived.BigQuiet
import Derived.WideLaws
import Derived.Deep.DeepCutAuto
import Derived.Deep.CutBlock
import Derived.Deep.RegionHeld3
import Derived.Laws.Rows
import Derived.Lib.AppendStr
import Derived.ArgAppend
import Derived.Laws.IdiomCopy
import Derived.OrdersHeld
import Derived.Laws.BitsLemmas
import Derived.RowKit
import Derived.Test.YtadbcjeelbkfcaaHFl
import Derived.Test.YtadbcjeelbkfcaaHMap
import Derived.Test.YtadbcjeelbkfcaaHMore
import Derived.Test.YtadbcjeelbkfcaaWWords
import Derived.Test.YtadbcjeelbkfcaaWLast
import Derived.Test.YtadbcjeelbkfcaaWTab
import Derived.Test.YtadbcjeelbkfcaaWFour
import Derived.Test.YtadbcjeelbkfcaaWQPut
import Derived.Test.YtadbcjeelbkfcaaWApart
import Derived.Test.YtadbcjeelbkfcaaWArr
import Derived.Test.YtadbcjeelbkfcaaWZeros
import Derived.Test.YtadbcjeelbkfcaaWFoot
import Derived.Test.YtadbcjeelbkfcaaWKept
import Derived.Test.YtadbcjeelbkfcaaWShare
import Derived.Test.YtadbcjeelbkfcaaWN
import Derived.Test.YtadbcjeelbkfcaaWFootNe
import Derived.Test.YtadbcjeelbkfcaaWAt
import Derived.Test.YtadbcjeelbkfcaaWEqStruct
import Derived.Test.YtadbcjeelbkfcaaWRepsOne
import Derived.Test.YtadbcjeelbkfcaaWInv
import Derived.Test.YtadbcjeelbkfcaaWInvWords
import Derived.Test.YtadbcjeelbkfcaaWGuard
import Derived.Test.YtadbcjeelbkfcaaWNEv
import Derived.Test.YtadbcjeelbkfcaaWMore
namespace Go.Proofs.Ytadbcjeelbkfcaa.PFnExactStatusRead
open Go.RowKit Go.Proofs.YtadbcjeelbkfcaaW.PrintWords Go.Proofs.YtadbcjeelbkfcaaW.PrintLast Go.Proofs.YtadbcjeelbkfcaaW.PrintMore Go.Proofs.Ytadbcjeelbkfcaa.HFl Go.Proofs.Ytadbcjeelbkfcaa.HMap Go.Proofs.Ytadbcjeelbkfcaa.HMore
attribute [local go_sem] max2_int min2_int max_two min_two max_three min_three max_four min_four   -- for this text's walks alone
set_option linter.unusedVariables false
set_option linter.unusedSimpArgs false



def errW : Option Int → Value
  | none => .nilIface
  | some c => .iface 0 (.int .i64 c)
theorem errW_none : errW none = .nilIface := rfl
theorem errW_some (c : Int) : errW (some c) = .iface 0 (.int .i64 c) := rfl

theorem info3 : (Try.prog.info? 3).map (fun i => (i.zero, i.size, i.bytes)) = some (some (.int .i64 0), 1, 8) := by kernel_rfl
theorem info5 : (Try.prog.info? 5).map (fun i => (i.zero, i.size, i.bytes)) = some (some (.int .u8 0), 1, 1) := by kernel_rfl
-- the values' own types

end Go.Proofs.Ytadbcjeelbkfcaa.PFnExactStatusRead
