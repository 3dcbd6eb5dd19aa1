-- Written by hv.py, a program of this session's own, over the kit's print: FnExactTracksOk
import Derived.Test.YtjmlbkhcjgehdaaPFnExactTracksOkx0
import Derived.Test.YtjmlbkhcjgehdaaPFnExactTracksOkx1
import Derived.Test.YtjmlbkhcjgehdaaPFnExactTracksOkx2
import Derived.Test.YtjmlbkhcjgehdaaPFnExactTracksOkx3
import Derived.Test.YtjmlbkhcjgehdaaPFnExactTracksOkx4
import Derived.Test.YtjmlbkhcjgehdaaPFnExactTracksOkx5
import Derived.Test.YtjmlbkhcjgehdaaPFnExactTracksOkx6
import Derived.Test.YtjmlbkhcjgehdaaPFnExactTracksOkx7
import Derived.Test.YtjmlbkhcjgehdaaPFnExactTracksOkx8
import Derived.Test.YtjmlbkhcjgehdaaPFnExactTracksOkx9
import Derived.Test.YtjmlbkhcjgehdaaPFnExactTracksOkx10
namespace Go.Proofs.Ytjmlbkhcjgehdaa.PFnExactTracksOk
open Go.RowKit Go.Proofs.YtjmlbkhcjgehdaaW.PrintWords Go.Proofs.YtjmlbkhcjgehdaaW.PrintLast Go.Proofs.YtjmlbkhcjgehdaaW.PrintMore Go.Proofs.Ytjmlbkhcjgehdaa.HFl Go.Proofs.Ytjmlbkhcjgehdaa.HMap Go.Proofs.Ytjmlbkhcjgehdaa.HMore Go.Proofs.Ytjmlbkhcjgehdaa
attribute [local go_sem] max2_int min2_int max_two min_two max_three min_three max_four min_four   -- for this text's walks alone
set_option linter.unusedVariables false
set_option linter.unusedSimpArgs false

end Go.Proofs.Ytjmlbkhcjgehdaa.PFnExactTracksOk
