-- Written by hv.py, a program of this session's own, over the kit's print: FnExactOpOk
import Derived.Test.YtjmlbkhcjgehdaaPFnExactOpOkx0
import Derived.Test.YtjmlbkhcjgehdaaPFnExactOpOkx1
import Derived.Test.YtjmlbkhcjgehdaaPFnExactOpOkx2
import Derived.Test.YtjmlbkhcjgehdaaPFnExactOpOkx3
import Derived.Test.YtjmlbkhcjgehdaaPFnExactOpOkx4
import Derived.Test.YtjmlbkhcjgehdaaPFnExactOpOkx5
import Derived.Test.YtjmlbkhcjgehdaaPFnExactOpOkx7
namespace Go.Proofs.Ytjmlbkhcjgehdaa.PFnExactOpOk
open Go.RowKit Go.Proofs.YtjmlbkhcjgehdaaW.PrintWords Go.Proofs.YtjmlbkhcjgehdaaW.PrintLast Go.Proofs.YtjmlbkhcjgehdaaW.PrintMore Go.Proofs.Ytjmlbkhcjgehdaa.HFl Go.Proofs.Ytjmlbkhcjgehdaa.HMap Go.Proofs.Ytjmlbkhcjgehdaa.HMore Go.Proofs.Ytjmlbkhcjgehdaa
attribute [local go_sem] max2_int min2_int max_two min_two max_three min_three max_four min_four   -- for this text's walks alone
set_option linter.unusedVariables false
set_option linter.unusedSimpArgs false

end Go.Proofs.Ytjmlbkhcjgehdaa.PFnExactOpOk
