import Derived.Test.YtckgidiokbofiaaGreatDoorMTS
set_option linter.unusedSimpArgs false
set_option linter.unusedVariables false
set_option maxRecDepth 100000
noncomputable section
namespace Go.Ev.X
open Go Go.Ev Go.Proofs
theorem tm0tt:ze 0 true true=0:=by decide +kernel
theorem tm3tt:ze 3 true true=0:=by decide +kernel
theorem tm6tt:ze 6 true true=0:=by decide +kernel
theorem tm9tt:ze 9 true true=0:=by decide +kernel
theorem tm12tt:ze 12 true true=0:=by decide +kernel
theorem tm15tt:ze 15 true true=0:=by decide +kernel
theorem tm18tt:ze 18 true true=0:=by decide +kernel
theorem tm21tt:ze 21 true true=0:=by decide +kernel
theorem tm24tt:ze 24 true true=0:=by decide +kernel
theorem tm27tt:ze 27 true true=0:=by decide +kernel
theorem tm30tt:ze 30 true true=0:=by decide +kernel
theorem tm33tt:ze 33 true true=0:=by decide +kernel
theorem tm36tt:ze 36 true true=0:=by decide +kernel
theorem tm39tt:ze 39 true true=0:=by decide +kernel
theorem tm42tt:ze 42 true true=0:=by decide +kernel
theorem tm45tt:ze 45 true true=0:=by decide +kernel
theorem tm48tt:ze 48 true true=0:=by decide +kernel
theorem tm51tt:ze 51 true true=0:=by decide +kernel
theorem tm54tt:ze 54 true true=0:=by decide +kernel
theorem tm57tt:ze 57 true true=0:=by decide +kernel
theorem tm60tt:ze 60 true true=0:=by decide +kernel
theorem tm63tt:ze 63 true true=0:=by decide +kernel
theorem tm66tt:ze 66 true true=0:=by decide +kernel
theorem tm69tt:ze 69 true true=0:=by decide +kernel
theorem tm72tt:ze 72 true true=0:=by decide +kernel
theorem tm75tt:ze 75 true true=0:=by decide +kernel
theorem tm78tt:ze 78 true true=0:=by decide +kernel
theorem tm81tt:ze 81 true true=0:=by decide +kernel
theorem tm84tt:ze 84 true true=0:=by decide +kernel
theorem tm87tt:ze 87 true true=0:=by decide +kernel
theorem tm90tt:ze 90 true true=0:=by decide +kernel
theorem tm93tt:ze 93 true true=0:=by decide +kernel
theorem tm96tt:ze 96 true true=0:=by decide +kernel
theorem tm99tt:ze 99 true true=0:=by decide +kernel
theorem tm102tt:ze 102 true true=0:=by decide +kernel
theorem tm105tt:ze 105 true true=0:=by decide +kernel
theorem tm108tt:ze 108 true true=0:=by decide +kernel
theorem tm111tt:ze 111 true true=0:=by decide +kernel
theorem tm114tt:ze 114 true true=0:=by decide +kernel
theorem tm117tt:ze 117 true true=0:=by decide +kernel
theorem tm120tt:ze 120 true true=0:=by decide +kernel
theorem tm123tt:ze 123 true true=0:=by decide +kernel
theorem tm126tt:ze 126 true true=0:=by decide +kernel
end Go.Ev.X
end
