import Derived.Test.YtcinokgfjdifbaaGreatCQy
set_option maxRecDepth 100000
namespace Go.Ev.X
open Go Go.Ev
theorem outC10:zen 1 0=true:=by decide +kernel
theorem outC11:zen 1 1=true:=by decide +kernel
theorem outC12:zen 1 2=true:=by decide +kernel
theorem outC13:zen 1 3=true:=by decide +kernel
theorem outC14:zen 1 4=true:=by decide +kernel
end Go.Ev.X
