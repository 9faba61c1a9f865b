import Derived.Test.YtcinokgfjdifbaaGreatBQy
set_option maxRecDepth 100000
namespace Go.Ev.X
open Go Go.Ev
theorem outD0:allD 0=true:=by decide +kernel
end Go.Ev.X
