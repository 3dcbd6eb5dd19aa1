-- Written by hv.py, a program of this session's own, over the kit's print: FnExactWaitFree
import Derived.Test.YtadbcjeelbkfcaaPFnExactWaitFreex0
import Derived.Test.YtadbcjeelbkfcaaPFnExactWaitFreex1
import Derived.Test.YtadbcjeelbkfcaaPFnExactWaitFreex2
import Derived.Test.YtadbcjeelbkfcaaPFnExactWaitFreex3
import Derived.Test.YtadbcjeelbkfcaaPFnExactWaitFreex4
namespace Go.Proofs.Ytadbcjeelbkfcaa.PFnExactWaitFree
open Go.RowKit Go.Proofs.YtadbcjeelbkfcaaW.PrintWords Go.Proofs.YtadbcjeelbkfcaaW.PrintLast Go.Proofs.YtadbcjeelbkfcaaW.PrintMore Go.Proofs.Ytadbcjeelbkfcaa.HFl Go.Proofs.Ytadbcjeelbkfcaa.HMap Go.Proofs.Ytadbcjeelbkfcaa.HMore
attribute [local go_sem] max2_int min2_int max_two min_two max_three min_three max_four min_four   -- for this text's walks alone
set_option linter.unusedVariables false
set_option linter.unusedSimpArgs false

end Go.Proofs.Ytadbcjeelbkfcaa.PFnExactWaitFree
