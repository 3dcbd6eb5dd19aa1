/- What the arguments of FnRings read as, opened. -/
import Derived.Test.YtciflbagdlkgpaaHOpen
import Derived.Test.YtciflbagdlkgpaaPFnRingsx2
namespace Go.Proofs.Ytciflbagdlkgpaa.PFnRings
open Go.RowKit Go.Proofs.YtciflbagdlkgpaaW.PrintWords Go.Proofs.Ytciflbagdlkgpaa
set_option linter.unusedVariables false

end Go.Proofs.Ytciflbagdlkgpaa.PFnRings
