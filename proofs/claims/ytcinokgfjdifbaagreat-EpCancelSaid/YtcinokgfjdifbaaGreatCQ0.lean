import Derived.Test.YtcinokgfjdifbaaGreatCQy
set_option maxRecDepth 100000
namespace Go.Ev.X
open Go Go.Ev
theorem outC00:zen 0 0=true:=by decide +kernel
theorem outC01:zen 0 1=true:=by decide +kernel
theorem outC02:zen 0 2=true:=by decide +kernel
theorem outC03:zen 0 3=true:=by decide +kernel
theorem outC04:zen 0 4=true:=by decide +kernel
end Go.Ev.X
