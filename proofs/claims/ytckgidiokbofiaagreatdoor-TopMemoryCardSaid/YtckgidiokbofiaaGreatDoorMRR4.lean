import Derived.Test.YtckgidiokbofiaaGreatDoorMTS
set_option linter.unusedSimpArgs false
set_option linter.unusedVariables false
set_option maxRecDepth 100000
noncomputable section
namespace Go.Ev.X
open Go Go.Ev Go.Proofs
theorem tm1ff:ze 1 false false=0:=by decide +kernel
theorem tm4ff:ze 4 false false=0:=by decide +kernel
theorem tm7ff:ze 7 false false=0:=by decide +kernel
theorem tm10ff:ze 10 false false=0:=by decide +kernel
theorem tm13ff:ze 13 false false=0:=by decide +kernel
theorem tm16ff:ze 16 false false=0:=by decide +kernel
theorem tm19ff:ze 19 false false=0:=by decide +kernel
theorem tm22ff:ze 22 false false=0:=by decide +kernel
theorem tm25ff:ze 25 false false=0:=by decide +kernel
theorem tm28ff:ze 28 false false=0:=by decide +kernel
theorem tm31ff:ze 31 false false=0:=by decide +kernel
theorem tm34ff:ze 34 false false=0:=by decide +kernel
theorem tm37ff:ze 37 false false=0:=by decide +kernel
theorem tm40ff:ze 40 false false=0:=by decide +kernel
theorem tm43ff:ze 43 false false=0:=by decide +kernel
theorem tm46ff:ze 46 false false=0:=by decide +kernel
theorem tm49ff:ze 49 false false=0:=by decide +kernel
theorem tm52ff:ze 52 false false=0:=by decide +kernel
theorem tm55ff:ze 55 false false=0:=by decide +kernel
theorem tm58ff:ze 58 false false=0:=by decide +kernel
theorem tm61ff:ze 61 false false=0:=by decide +kernel
theorem tm64ff:ze 64 false false=0:=by decide +kernel
theorem tm67ff:ze 67 false false=0:=by decide +kernel
theorem tm70ff:ze 70 false false=0:=by decide +kernel
theorem tm73ff:ze 73 false false=0:=by decide +kernel
theorem tm76ff:ze 76 false false=0:=by decide +kernel
theorem tm79ff:ze 79 false false=0:=by decide +kernel
theorem tm82ff:ze 82 false false=0:=by decide +kernel
theorem tm85ff:ze 85 false false=0:=by decide +kernel
theorem tm88ff:ze 88 false false=0:=by decide +kernel
theorem tm91ff:ze 91 false false=0:=by decide +kernel
theorem tm94ff:ze 94 false false=0:=by decide +kernel
theorem tm97ff:ze 97 false false=0:=by decide +kernel
theorem tm100ff:ze 100 false false=0:=by decide +kernel
theorem tm103ff:ze 103 false false=0:=by decide +kernel
theorem tm106ff:ze 106 false false=0:=by decide +kernel
theorem tm109ff:ze 109 false false=0:=by decide +kernel
theorem tm112ff:ze 112 false false=0:=by decide +kernel
theorem tm115ff:ze 115 false false=0:=by decide +kernel
theorem tm118ff:ze 118 false false=0:=by decide +kernel
theorem tm121ff:ze 121 false false=0:=by decide +kernel
theorem tm124ff:ze 124 false false=0:=by decide +kernel
theorem tm127ff:ze 127 false false=0:=by decide +kernel
end Go.Ev.X
end
