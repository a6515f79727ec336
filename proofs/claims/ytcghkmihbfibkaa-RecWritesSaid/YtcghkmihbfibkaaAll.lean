/- What the functions that RecWrites reaches compute: a part. -/
import Derived.Test.YtcghkmihbfibkaaRecW
import Derived.Test.YtcghkmihbfibkaaFnsOk
import Derived.Test.YtcghkmihbfibkaaOpenR
set_option linter.all false
