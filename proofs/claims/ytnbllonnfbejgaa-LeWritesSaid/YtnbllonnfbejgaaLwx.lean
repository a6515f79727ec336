-- written by a program of this session
import Derived.Test.YtnbllonnfbejgaaLwx0
import Derived.Test.YtnbllonnfbejgaaLwx1
import Derived.Test.YtnbllonnfbejgaaLwx2
import Derived.Test.YtnbllonnfbejgaaLwx3
import Derived.Test.YtnbllonnfbejgaaLwx4
namespace Go.Proofs.Ytnbllonnfbejgaa.Lw
open Go.RowKit Go.Proofs.YtnbllonnfbejgaaW.PrintWords Go.Proofs.YtnbllonnfbejgaaW.PrintLast Go.Proofs.YtnbllonnfbejgaaW.PrintMore
attribute [local go_sem] max2_int min2_int max_two min_two max_three min_three max_four min_four   -- for this text's walks alone
set_option linter.unusedVariables false
set_option linter.unusedSimpArgs false

end Go.Proofs.Ytnbllonnfbejgaa.Lw
