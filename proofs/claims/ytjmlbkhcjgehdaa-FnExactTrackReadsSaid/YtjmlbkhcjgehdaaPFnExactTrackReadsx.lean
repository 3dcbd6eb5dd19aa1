-- Written by hv.py, a program of this session's own, over the kit's print: FnExactTrackReads
import Derived.Test.YtjmlbkhcjgehdaaPFnExactTrackReadsx0
import Derived.Test.YtjmlbkhcjgehdaaPFnExactTrackReadsx1
import Derived.Test.YtjmlbkhcjgehdaaPFnExactTrackReadsx2
import Derived.Test.YtjmlbkhcjgehdaaPFnExactTrackReadsx3
import Derived.Test.YtjmlbkhcjgehdaaPFnExactTrackReadsx4
import Derived.Test.YtjmlbkhcjgehdaaPFnExactTrackReadsx5
import Derived.Test.YtjmlbkhcjgehdaaPFnExactTrackReadsx6
import Derived.Test.YtjmlbkhcjgehdaaPFnExactTrackReadsx7
import Derived.Test.YtjmlbkhcjgehdaaPFnExactTrackReadsx8
namespace Go.Proofs.Ytjmlbkhcjgehdaa.PFnExactTrackReads
open Go.RowKit Go.Proofs.YtjmlbkhcjgehdaaW.PrintWords Go.Proofs.YtjmlbkhcjgehdaaW.PrintLast Go.Proofs.YtjmlbkhcjgehdaaW.PrintMore Go.Proofs.Ytjmlbkhcjgehdaa.HFl Go.Proofs.Ytjmlbkhcjgehdaa.HMap Go.Proofs.Ytjmlbkhcjgehdaa.HMore Go.Proofs.Ytjmlbkhcjgehdaa
attribute [local go_sem] max2_int min2_int max_two min_two max_three min_three max_four min_four   -- for this text's walks alone
set_option linter.unusedVariables false
set_option linter.unusedSimpArgs false

end Go.Proofs.Ytjmlbkhcjgehdaa.PFnExactTrackReads
