-- written by a program of this session
import Derived.Test.YtnbllonnfbejgaaRkx0
import Derived.Test.YtnbllonnfbejgaaRkx1
import Derived.Test.YtnbllonnfbejgaaRkx2
import Derived.Test.YtnbllonnfbejgaaRkx3
import Derived.Test.YtnbllonnfbejgaaRkx4
import Derived.Test.YtnbllonnfbejgaaRkx5
import Derived.Test.YtnbllonnfbejgaaRkx6
namespace Go.Proofs.Ytnbllonnfbejgaa.Rk
open Go.RowKit Go.Proofs.YtnbllonnfbejgaaW.PrintWords Go.Proofs.YtnbllonnfbejgaaW.PrintLast Go.Proofs.YtnbllonnfbejgaaW.PrintMore
attribute [local go_sem] max2_int min2_int max_two min_two max_three min_three max_four min_four   -- for this text's walks alone
set_option linter.unusedVariables false
set_option linter.unusedSimpArgs false

end Go.Proofs.Ytnbllonnfbejgaa.Rk
