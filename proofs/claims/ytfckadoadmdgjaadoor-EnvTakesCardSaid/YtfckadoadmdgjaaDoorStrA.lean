/- What the functions that EnvTakes reaches compute: a part. -/
import Derived.Test.YtfckadoadmdgjaaDoorFnsX
import Derived.Test.YtfckadoadmdgjaaDoorStrP
set_option linter.all false
namespace Go.Pv.Cb
set_option linter.unusedSimpArgs false
open Go.Pv
set_option maxRecDepth 10000
set_option maxHeartbeats 4000000
theorem Valid_spec (s : List UInt8) (h : s.length ≤ 1000000) : ansOf E F_unicode_utf8_ValidString [.w (.p (.str s))] = some ([(false, [.p (.bool (Go.Lib.validD s))])], []) := by
  refine ans_ext (g := validE) rfl ?_
  show (if _ then _ else _) = _
  rw [if_pos (by omega)]
end Go.Pv.Cb
