-- Written by hv.py, a program of this session's own, over the kit's print: FnStatuses
import Derived.Test.YtadbcjeelbkfcaaPFnStatusesx0
import Derived.Test.YtadbcjeelbkfcaaPFnStatusesx1
import Derived.Test.YtadbcjeelbkfcaaPFnStatusesx2
import Derived.Test.YtadbcjeelbkfcaaPFnStatusesx3
import Derived.Test.YtadbcjeelbkfcaaPFnStatusesx4
namespace Go.Proofs.Ytadbcjeelbkfcaa.PFnStatuses
open Go.RowKit Go.Proofs.YtadbcjeelbkfcaaW.PrintWords Go.Proofs.YtadbcjeelbkfcaaW.PrintLast Go.Proofs.YtadbcjeelbkfcaaW.PrintMore Go.Proofs.Ytadbcjeelbkfcaa.HFl Go.Proofs.Ytadbcjeelbkfcaa.HMap Go.Proofs.Ytadbcjeelbkfcaa.HMore
attribute [local go_sem] max2_int min2_int max_two min_two max_three min_three max_four min_four   -- for this text's walks alone
set_option linter.unusedVariables false
set_option linter.unusedSimpArgs false

end Go.Proofs.Ytadbcjeelbkfcaa.PFnStatuses
