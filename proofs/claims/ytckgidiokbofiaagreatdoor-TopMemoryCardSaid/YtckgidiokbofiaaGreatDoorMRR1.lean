import Derived.Test.YtckgidiokbofiaaGreatDoorMTS
set_option linter.unusedSimpArgs false
set_option linter.unusedVariables false
set_option maxRecDepth 100000
noncomputable section
namespace Go.Ev.X
open Go Go.Ev Go.Proofs
theorem tm0ft:ze 0 false true=0:=by decide +kernel
theorem tm3ft:ze 3 false true=0:=by decide +kernel
theorem tm6ft:ze 6 false true=0:=by decide +kernel
theorem tm9ft:ze 9 false true=0:=by decide +kernel
theorem tm12ft:ze 12 false true=0:=by decide +kernel
theorem tm15ft:ze 15 false true=0:=by decide +kernel
theorem tm18ft:ze 18 false true=0:=by decide +kernel
theorem tm21ft:ze 21 false true=0:=by decide +kernel
theorem tm24ft:ze 24 false true=0:=by decide +kernel
theorem tm27ft:ze 27 false true=0:=by decide +kernel
theorem tm30ft:ze 30 false true=0:=by decide +kernel
theorem tm33ft:ze 33 false true=0:=by decide +kernel
theorem tm36ft:ze 36 false true=0:=by decide +kernel
theorem tm39ft:ze 39 false true=0:=by decide +kernel
theorem tm42ft:ze 42 false true=0:=by decide +kernel
theorem tm45ft:ze 45 false true=0:=by decide +kernel
theorem tm48ft:ze 48 false true=0:=by decide +kernel
theorem tm51ft:ze 51 false true=0:=by decide +kernel
theorem tm54ft:ze 54 false true=0:=by decide +kernel
theorem tm57ft:ze 57 false true=0:=by decide +kernel
theorem tm60ft:ze 60 false true=0:=by decide +kernel
theorem tm63ft:ze 63 false true=0:=by decide +kernel
theorem tm66ft:ze 66 false true=0:=by decide +kernel
theorem tm69ft:ze 69 false true=0:=by decide +kernel
theorem tm72ft:ze 72 false true=0:=by decide +kernel
theorem tm75ft:ze 75 false true=0:=by decide +kernel
theorem tm78ft:ze 78 false true=0:=by decide +kernel
theorem tm81ft:ze 81 false true=0:=by decide +kernel
theorem tm84ft:ze 84 false true=0:=by decide +kernel
theorem tm87ft:ze 87 false true=0:=by decide +kernel
theorem tm90ft:ze 90 false true=0:=by decide +kernel
theorem tm93ft:ze 93 false true=0:=by decide +kernel
theorem tm96ft:ze 96 false true=0:=by decide +kernel
theorem tm99ft:ze 99 false true=0:=by decide +kernel
theorem tm102ft:ze 102 false true=0:=by decide +kernel
theorem tm105ft:ze 105 false true=0:=by decide +kernel
theorem tm108ft:ze 108 false true=0:=by decide +kernel
theorem tm111ft:ze 111 false true=0:=by decide +kernel
theorem tm114ft:ze 114 false true=0:=by decide +kernel
theorem tm117ft:ze 117 false true=0:=by decide +kernel
theorem tm120ft:ze 120 false true=0:=by decide +kernel
theorem tm123ft:ze 123 false true=0:=by decide +kernel
theorem tm126ft:ze 126 false true=0:=by decide +kernel
end Go.Ev.X
end
