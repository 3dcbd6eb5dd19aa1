/- What the arguments of FnUnseen read as, opened. -/
import Derived.Test.YtjhokmpmecjdhaaHOpen
import Derived.Test.YtjhokmpmecjdhaaPFnUnseenx5
namespace Go.Proofs.Ytjhokmpmecjdhaa.PFnUnseen
open Go.RowKit Go.Proofs.YtjhokmpmecjdhaaW.PrintWords Go.Proofs.Ytjhokmpmecjdhaa Go.Proofs.Ytjhokmpmecjdhaa.HFl
set_option linter.unusedVariables false

end Go.Proofs.Ytjhokmpmecjdhaa.PFnUnseen
