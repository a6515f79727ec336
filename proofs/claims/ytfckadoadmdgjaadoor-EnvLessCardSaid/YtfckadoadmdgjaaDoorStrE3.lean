/- What the functions that EnvLess reaches compute: a part. -/
import Derived.Test.YtfckadoadmdgjaaDoorStrE1
set_option linter.all false
namespace Go.Pv.Cb
set_option linter.unusedSimpArgs false
open Go.Pv
set_option maxRecDepth 10000
set_option maxHeartbeats 8000000
end Go.Pv.Cb
