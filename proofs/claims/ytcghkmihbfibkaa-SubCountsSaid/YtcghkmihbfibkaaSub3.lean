/- What the functions that SubCounts reaches compute: a part. -/
import Derived.Test.YtcghkmihbfibkaaSub2
set_option linter.all false
namespace Go.Pv.Cb
open Go.Pv
set_option maxRecDepth 10000
set_option maxHeartbeats 4000000
set_option linter.unusedSimpArgs false
def opL : Option (Int × List R) → List (List OV)
  | none => []
  | some (k, rs) => [oS ⟨k, rs⟩]
def opM (o : Option (Int × List R)) : Nat := if o.isSome then 1 else 0
def opN : Option (Int × List R) → Nat
  | none => 0
  | some (_, rs) => 1 + rs.length
end Go.Pv.Cb
