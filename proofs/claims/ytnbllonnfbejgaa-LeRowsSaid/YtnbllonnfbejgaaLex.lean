-- written by a program of this session
import Derived.Test.YtnbllonnfbejgaaLex0
import Derived.Test.YtnbllonnfbejgaaLex1
import Derived.Test.YtnbllonnfbejgaaLex2
import Derived.Test.YtnbllonnfbejgaaLex3
import Derived.Test.YtnbllonnfbejgaaLex4
import Derived.Test.YtnbllonnfbejgaaLex5
import Derived.Test.YtnbllonnfbejgaaLex6
import Derived.Test.YtnbllonnfbejgaaLex7
import Derived.Test.YtnbllonnfbejgaaLex8
namespace Go.Proofs.Ytnbllonnfbejgaa.Le
open Go.RowKit Go.Proofs.YtnbllonnfbejgaaW.PrintWords Go.Proofs.YtnbllonnfbejgaaW.PrintLast Go.Proofs.YtnbllonnfbejgaaW.PrintMore
attribute [local go_sem] max2_int min2_int max_two min_two max_three min_three max_four min_four   -- for this text's walks alone
set_option linter.unusedVariables false
set_option linter.unusedSimpArgs false

end Go.Proofs.Ytnbllonnfbejgaa.Le
