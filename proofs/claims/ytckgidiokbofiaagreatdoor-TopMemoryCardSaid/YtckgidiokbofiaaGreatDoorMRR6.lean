import Derived.Test.YtckgidiokbofiaaGreatDoorMTS
set_option linter.unusedSimpArgs false
set_option linter.unusedVariables false
set_option maxRecDepth 100000
noncomputable section
namespace Go.Ev.X
open Go Go.Ev Go.Proofs
theorem tm1tf:ze 1 true false=0:=by decide +kernel
theorem tm4tf:ze 4 true false=0:=by decide +kernel
theorem tm7tf:ze 7 true false=0:=by decide +kernel
theorem tm10tf:ze 10 true false=0:=by decide +kernel
theorem tm13tf:ze 13 true false=0:=by decide +kernel
theorem tm16tf:ze 16 true false=0:=by decide +kernel
theorem tm19tf:ze 19 true false=0:=by decide +kernel
theorem tm22tf:ze 22 true false=0:=by decide +kernel
theorem tm25tf:ze 25 true false=0:=by decide +kernel
theorem tm28tf:ze 28 true false=0:=by decide +kernel
theorem tm31tf:ze 31 true false=0:=by decide +kernel
theorem tm34tf:ze 34 true false=0:=by decide +kernel
theorem tm37tf:ze 37 true false=0:=by decide +kernel
theorem tm40tf:ze 40 true false=0:=by decide +kernel
theorem tm43tf:ze 43 true false=0:=by decide +kernel
theorem tm46tf:ze 46 true false=0:=by decide +kernel
theorem tm49tf:ze 49 true false=0:=by decide +kernel
theorem tm52tf:ze 52 true false=0:=by decide +kernel
theorem tm55tf:ze 55 true false=0:=by decide +kernel
theorem tm58tf:ze 58 true false=0:=by decide +kernel
theorem tm61tf:ze 61 true false=0:=by decide +kernel
theorem tm64tf:ze 64 true false=0:=by decide +kernel
theorem tm67tf:ze 67 true false=0:=by decide +kernel
theorem tm70tf:ze 70 true false=0:=by decide +kernel
theorem tm73tf:ze 73 true false=0:=by decide +kernel
theorem tm76tf:ze 76 true false=0:=by decide +kernel
theorem tm79tf:ze 79 true false=0:=by decide +kernel
theorem tm82tf:ze 82 true false=0:=by decide +kernel
theorem tm85tf:ze 85 true false=0:=by decide +kernel
theorem tm88tf:ze 88 true false=0:=by decide +kernel
theorem tm91tf:ze 91 true false=0:=by decide +kernel
theorem tm94tf:ze 94 true false=0:=by decide +kernel
theorem tm97tf:ze 97 true false=0:=by decide +kernel
theorem tm100tf:ze 100 true false=0:=by decide +kernel
theorem tm103tf:ze 103 true false=0:=by decide +kernel
theorem tm106tf:ze 106 true false=0:=by decide +kernel
theorem tm109tf:ze 109 true false=0:=by decide +kernel
theorem tm112tf:ze 112 true false=0:=by decide +kernel
theorem tm115tf:ze 115 true false=0:=by decide +kernel
theorem tm118tf:ze 118 true false=0:=by decide +kernel
theorem tm121tf:ze 121 true false=0:=by decide +kernel
theorem tm124tf:ze 124 true false=0:=by decide +kernel
theorem tm127tf:ze 127 true false=0:=by decide +kernel
end Go.Ev.X
end
