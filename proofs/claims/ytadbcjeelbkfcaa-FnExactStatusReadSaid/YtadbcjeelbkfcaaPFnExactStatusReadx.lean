-- Written by hv.py, a program of this session's own, over the kit's print: FnExactStatusRead
import Derived.Test.YtadbcjeelbkfcaaPFnExactStatusReadx0
import Derived.Test.YtadbcjeelbkfcaaPFnExactStatusReadx1
import Derived.Test.YtadbcjeelbkfcaaPFnExactStatusReadx2
import Derived.Test.YtadbcjeelbkfcaaPFnExactStatusReadx3
import Derived.Test.YtadbcjeelbkfcaaPFnExactStatusReadx4
namespace Go.Proofs.Ytadbcjeelbkfcaa.PFnExactStatusRead
open Go.RowKit Go.Proofs.YtadbcjeelbkfcaaW.PrintWords Go.Proofs.YtadbcjeelbkfcaaW.PrintLast Go.Proofs.YtadbcjeelbkfcaaW.PrintMore Go.Proofs.Ytadbcjeelbkfcaa.HFl Go.Proofs.Ytadbcjeelbkfcaa.HMap Go.Proofs.Ytadbcjeelbkfcaa.HMore
attribute [local go_sem] max2_int min2_int max_two min_two max_three min_three max_four min_four   -- for this text's walks alone
set_option linter.unusedVariables false
set_option linter.unusedSimpArgs false

end Go.Proofs.Ytadbcjeelbkfcaa.PFnExactStatusRead
