-- Written by hv.py, a program of this session's own, over the kit's print: FnUnseen
import Derived.Test.YtjhokmpmecjdhaaPFnUnseenx0
import Derived.Test.YtjhokmpmecjdhaaPFnUnseenx1
import Derived.Test.YtjhokmpmecjdhaaPFnUnseenx2
import Derived.Test.YtjhokmpmecjdhaaPFnUnseenx3
import Derived.Test.YtjhokmpmecjdhaaPFnUnseenx4
import Derived.Test.YtjhokmpmecjdhaaPFnUnseenx5
namespace Go.Proofs.Ytjhokmpmecjdhaa.PFnUnseen
open Go.RowKit Go.Proofs.YtjhokmpmecjdhaaW.PrintWords Go.Proofs.YtjhokmpmecjdhaaW.PrintLast Go.Proofs.YtjhokmpmecjdhaaW.PrintMore Go.Proofs.Ytjhokmpmecjdhaa.HFl Go.Proofs.Ytjhokmpmecjdhaa.HMap Go.Proofs.Ytjhokmpmecjdhaa.HMore Go.Proofs.Ytjhokmpmecjdhaa
attribute [local go_sem] max2_int min2_int max_two min_two max_three min_three max_four min_four   -- for this text's walks alone
set_option linter.unusedVariables false
set_option linter.unusedSimpArgs false

end Go.Proofs.Ytjhokmpmecjdhaa.PFnUnseen
