import Derived.Test.YtcinokgfjdifbaaGreatCQy
set_option maxRecDepth 100000
namespace Go.Ev.X
open Go Go.Ev
theorem outC20:zen 2 0=true:=by decide +kernel
theorem outC21:zen 2 1=true:=by decide +kernel
theorem outC22:zen 2 2=true:=by decide +kernel
theorem outC23:zen 2 3=true:=by decide +kernel
theorem outC24:zen 2 4=true:=by decide +kernel
end Go.Ev.X
