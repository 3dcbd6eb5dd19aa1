-- Written by hv.py, a program of this session's own, over the kit's print: FnRings
import Derived.Test.YtciflbagdlkgpaaPFnRingsx0
import Derived.Test.YtciflbagdlkgpaaPFnRingsx1
import Derived.Test.YtciflbagdlkgpaaPFnRingsx2
namespace Go.Proofs.Ytciflbagdlkgpaa.PFnRings
open Go.RowKit Go.Proofs.YtciflbagdlkgpaaW.PrintWords Go.Proofs.YtciflbagdlkgpaaW.PrintLast Go.Proofs.YtciflbagdlkgpaaW.PrintMore Go.Proofs.Ytciflbagdlkgpaa.HFl Go.Proofs.Ytciflbagdlkgpaa.HMap Go.Proofs.Ytciflbagdlkgpaa.HMore
attribute [local go_sem] max2_int min2_int max_two min_two max_three min_three max_four min_four   -- for this text's walks alone
set_option linter.unusedVariables false
set_option linter.unusedSimpArgs false

end Go.Proofs.Ytciflbagdlkgpaa.PFnRings
