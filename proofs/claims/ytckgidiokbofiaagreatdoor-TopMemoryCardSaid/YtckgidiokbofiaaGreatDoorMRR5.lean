import Derived.Test.YtckgidiokbofiaaGreatDoorMTS
set_option linter.unusedSimpArgs false
set_option linter.unusedVariables false
set_option maxRecDepth 100000
noncomputable section
namespace Go.Ev.X
open Go Go.Ev Go.Proofs
theorem tm1ft:ze 1 false true=0:=by decide +kernel
theorem tm4ft:ze 4 false true=0:=by decide +kernel
theorem tm7ft:ze 7 false true=0:=by decide +kernel
theorem tm10ft:ze 10 false true=0:=by decide +kernel
theorem tm13ft:ze 13 false true=0:=by decide +kernel
theorem tm16ft:ze 16 false true=0:=by decide +kernel
theorem tm19ft:ze 19 false true=0:=by decide +kernel
theorem tm22ft:ze 22 false true=0:=by decide +kernel
theorem tm25ft:ze 25 false true=0:=by decide +kernel
theorem tm28ft:ze 28 false true=0:=by decide +kernel
theorem tm31ft:ze 31 false true=0:=by decide +kernel
theorem tm34ft:ze 34 false true=0:=by decide +kernel
theorem tm37ft:ze 37 false true=0:=by decide +kernel
theorem tm40ft:ze 40 false true=0:=by decide +kernel
theorem tm43ft:ze 43 false true=0:=by decide +kernel
theorem tm46ft:ze 46 false true=0:=by decide +kernel
theorem tm49ft:ze 49 false true=0:=by decide +kernel
theorem tm52ft:ze 52 false true=0:=by decide +kernel
theorem tm55ft:ze 55 false true=0:=by decide +kernel
theorem tm58ft:ze 58 false true=0:=by decide +kernel
theorem tm61ft:ze 61 false true=0:=by decide +kernel
theorem tm64ft:ze 64 false true=0:=by decide +kernel
theorem tm67ft:ze 67 false true=0:=by decide +kernel
theorem tm70ft:ze 70 false true=0:=by decide +kernel
theorem tm73ft:ze 73 false true=0:=by decide +kernel
theorem tm76ft:ze 76 false true=0:=by decide +kernel
theorem tm79ft:ze 79 false true=0:=by decide +kernel
theorem tm82ft:ze 82 false true=0:=by decide +kernel
theorem tm85ft:ze 85 false true=0:=by decide +kernel
theorem tm88ft:ze 88 false true=0:=by decide +kernel
theorem tm91ft:ze 91 false true=0:=by decide +kernel
theorem tm94ft:ze 94 false true=0:=by decide +kernel
theorem tm97ft:ze 97 false true=0:=by decide +kernel
theorem tm100ft:ze 100 false true=0:=by decide +kernel
theorem tm103ft:ze 103 false true=0:=by decide +kernel
theorem tm106ft:ze 106 false true=0:=by decide +kernel
theorem tm109ft:ze 109 false true=0:=by decide +kernel
theorem tm112ft:ze 112 false true=0:=by decide +kernel
theorem tm115ft:ze 115 false true=0:=by decide +kernel
theorem tm118ft:ze 118 false true=0:=by decide +kernel
theorem tm121ft:ze 121 false true=0:=by decide +kernel
theorem tm124ft:ze 124 false true=0:=by decide +kernel
theorem tm127ft:ze 127 false true=0:=by decide +kernel
end Go.Ev.X
end
