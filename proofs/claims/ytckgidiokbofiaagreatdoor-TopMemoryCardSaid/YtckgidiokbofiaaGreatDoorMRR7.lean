import Derived.Test.YtckgidiokbofiaaGreatDoorMTS
set_option linter.unusedSimpArgs false
set_option linter.unusedVariables false
set_option maxRecDepth 100000
noncomputable section
namespace Go.Ev.X
open Go Go.Ev Go.Proofs
theorem tm1tt:ze 1 true true=0:=by decide +kernel
theorem tm4tt:ze 4 true true=0:=by decide +kernel
theorem tm7tt:ze 7 true true=0:=by decide +kernel
theorem tm10tt:ze 10 true true=0:=by decide +kernel
theorem tm13tt:ze 13 true true=0:=by decide +kernel
theorem tm16tt:ze 16 true true=0:=by decide +kernel
theorem tm19tt:ze 19 true true=0:=by decide +kernel
theorem tm22tt:ze 22 true true=0:=by decide +kernel
theorem tm25tt:ze 25 true true=0:=by decide +kernel
theorem tm28tt:ze 28 true true=0:=by decide +kernel
theorem tm31tt:ze 31 true true=0:=by decide +kernel
theorem tm34tt:ze 34 true true=0:=by decide +kernel
theorem tm37tt:ze 37 true true=0:=by decide +kernel
theorem tm40tt:ze 40 true true=0:=by decide +kernel
theorem tm43tt:ze 43 true true=0:=by decide +kernel
theorem tm46tt:ze 46 true true=0:=by decide +kernel
theorem tm49tt:ze 49 true true=0:=by decide +kernel
theorem tm52tt:ze 52 true true=0:=by decide +kernel
theorem tm55tt:ze 55 true true=0:=by decide +kernel
theorem tm58tt:ze 58 true true=0:=by decide +kernel
theorem tm61tt:ze 61 true true=0:=by decide +kernel
theorem tm64tt:ze 64 true true=0:=by decide +kernel
theorem tm67tt:ze 67 true true=0:=by decide +kernel
theorem tm70tt:ze 70 true true=0:=by decide +kernel
theorem tm73tt:ze 73 true true=0:=by decide +kernel
theorem tm76tt:ze 76 true true=0:=by decide +kernel
theorem tm79tt:ze 79 true true=0:=by decide +kernel
theorem tm82tt:ze 82 true true=0:=by decide +kernel
theorem tm85tt:ze 85 true true=0:=by decide +kernel
theorem tm88tt:ze 88 true true=0:=by decide +kernel
theorem tm91tt:ze 91 true true=0:=by decide +kernel
theorem tm94tt:ze 94 true true=0:=by decide +kernel
theorem tm97tt:ze 97 true true=0:=by decide +kernel
theorem tm100tt:ze 100 true true=0:=by decide +kernel
theorem tm103tt:ze 103 true true=0:=by decide +kernel
theorem tm106tt:ze 106 true true=0:=by decide +kernel
theorem tm109tt:ze 109 true true=0:=by decide +kernel
theorem tm112tt:ze 112 true true=0:=by decide +kernel
theorem tm115tt:ze 115 true true=0:=by decide +kernel
theorem tm118tt:ze 118 true true=0:=by decide +kernel
theorem tm121tt:ze 121 true true=0:=by decide +kernel
theorem tm124tt:ze 124 true true=0:=by decide +kernel
theorem tm127tt:ze 127 true true=0:=by decide +kernel
end Go.Ev.X
end
