/- What the arguments of FnExactStatusRead read as, opened. -/
import Derived.Test.YtadbcjeelbkfcaaHOpen
import Derived.Test.YtadbcjeelbkfcaaPFnExactStatusReadx4
namespace Go.Proofs.Ytadbcjeelbkfcaa.PFnExactStatusRead
open Go.RowKit Go.Proofs.YtadbcjeelbkfcaaW.PrintWords Go.Proofs.Ytadbcjeelbkfcaa
set_option linter.unusedVariables false

end Go.Proofs.Ytadbcjeelbkfcaa.PFnExactStatusRead
