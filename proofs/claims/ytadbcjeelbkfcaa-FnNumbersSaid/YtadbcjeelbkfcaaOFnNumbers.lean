/- What the arguments of FnNumbers read as, opened. -/
import Derived.Test.YtadbcjeelbkfcaaHOpen
import Derived.Test.YtadbcjeelbkfcaaPFnNumbersx3
namespace Go.Proofs.Ytadbcjeelbkfcaa.PFnNumbers
open Go.RowKit Go.Proofs.YtadbcjeelbkfcaaW.PrintWords Go.Proofs.Ytadbcjeelbkfcaa
set_option linter.unusedVariables false

end Go.Proofs.Ytadbcjeelbkfcaa.PFnNumbers
