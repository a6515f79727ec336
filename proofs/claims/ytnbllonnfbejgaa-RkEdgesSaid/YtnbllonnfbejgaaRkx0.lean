-- written by a program of this session
import Derived.Test.YtnbllonnfbejgaaProg
import Derived.Below
import Derived.Deep.Draws
import Derived.Deep.AppendLies
import Derived.Maps.AppendAt
import Derived.OwnWalk
import Derived.Laws.BytesArg
import Derived.Laws.MakeOwn
import Derived.Laws.OwnMore
import Derived.Deep.OwnRows
import Derived.Tactics
import Derived.Lib.ConvBytes
import Derived.Laws.Slices
import Derived.WalkKit
import Derived.KernelRfl
import Derived.RowKit3
import Derived.Deep.LoopGhost
import Derived.Deep.QuietTactic
import Derived.BigQuiet
import Derived.WideLaws
import Derived.Deep.DeepCutAuto
import Derived.Deep.CutBlock
import Derived.Deep.RegionHeld3
import Derived.Laws.Rows
import Derived.Lib.AppendStr
import Derived.ArgAppend
import Derived.Laws.IdiomCopy
import Derived.OrdersHeld
import Derived.Laws.BitsLemmas
import Derived.RowKit
import Derived.Test.YtnbllonnfbejgaaWWords
import Derived.Test.YtnbllonnfbejgaaWLast
import Derived.Test.YtnbllonnfbejgaaWTab
import Derived.Test.YtnbllonnfbejgaaWFour
import Derived.Test.YtnbllonnfbejgaaWQPut
import Derived.Test.YtnbllonnfbejgaaWApart
import Derived.Test.YtnbllonnfbejgaaWArr
import Derived.Test.YtnbllonnfbejgaaWZeros
import Derived.Test.YtnbllonnfbejgaaWFoot
import Derived.Test.YtnbllonnfbejgaaWKept
import Derived.Test.YtnbllonnfbejgaaWShare
import Derived.Test.YtnbllonnfbejgaaWN
import Derived.Test.YtnbllonnfbejgaaWFootNe
import Derived.Test.YtnbllonnfbejgaaWAt
import Derived.Test.YtnbllonnfbejgaaWEqStruct
import Derived.Test.YtnbllonnfbejgaaWRepsOne
import Derived.Test.YtnbllonnfbejgaaWInv
import Derived.Test.YtnbllonnfbejgaaWInvWords
import Derived.Test.YtnbllonnfbejgaaWGuard
import Derived.Test.YtnbllonnfbejgaaWNEv
import Derived.Test.YtnbllonnfbejgaaWMore
import Derived.Test.YtnbllonnfbejgaaGoto
namespace Go.Proofs.Ytnbllonnfbejgaa.Rk
open Go.RowKit Go.Proofs.YtnbllonnfbejgaaW.PrintWords Go.Proofs.YtnbllonnfbejgaaW.PrintLast Go.Proofs.YtnbllonnfbejgaaW.PrintMore
attribute [local go_sem] max2_int min2_int max_two min_two max_three min_three max_four min_four   -- for this text's walks alone
set_option linter.unusedVariables false
set_option linter.unusedSimpArgs false



def errW : Option Int → Value
  | none => .nilIface
  | some c => .iface 0 (.int .i64 c)
theorem errW_none : errW none = .nilIface := rfl
theorem errW_some (c : Int) : errW (some c) = .iface 0 (.int .i64 c) := rfl

-- the values' own types

end Go.Proofs.Ytnbllonnfbejgaa.Rk
