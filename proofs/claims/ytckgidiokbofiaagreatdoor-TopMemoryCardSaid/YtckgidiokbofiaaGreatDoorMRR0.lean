import Derived.Test.YtckgidiokbofiaaGreatDoorMTS
set_option linter.unusedSimpArgs false
set_option linter.unusedVariables false
set_option maxRecDepth 100000
noncomputable section
namespace Go.Ev.X
open Go Go.Ev Go.Proofs
theorem tm0ff:ze 0 false false=0:=by decide +kernel
theorem tm3ff:ze 3 false false=0:=by decide +kernel
theorem tm6ff:ze 6 false false=0:=by decide +kernel
theorem tm9ff:ze 9 false false=0:=by decide +kernel
theorem tm12ff:ze 12 false false=0:=by decide +kernel
theorem tm15ff:ze 15 false false=0:=by decide +kernel
theorem tm18ff:ze 18 false false=0:=by decide +kernel
theorem tm21ff:ze 21 false false=0:=by decide +kernel
theorem tm24ff:ze 24 false false=0:=by decide +kernel
theorem tm27ff:ze 27 false false=0:=by decide +kernel
theorem tm30ff:ze 30 false false=0:=by decide +kernel
theorem tm33ff:ze 33 false false=0:=by decide +kernel
theorem tm36ff:ze 36 false false=0:=by decide +kernel
theorem tm39ff:ze 39 false false=0:=by decide +kernel
theorem tm42ff:ze 42 false false=0:=by decide +kernel
theorem tm45ff:ze 45 false false=0:=by decide +kernel
theorem tm48ff:ze 48 false false=0:=by decide +kernel
theorem tm51ff:ze 51 false false=0:=by decide +kernel
theorem tm54ff:ze 54 false false=0:=by decide +kernel
theorem tm57ff:ze 57 false false=0:=by decide +kernel
theorem tm60ff:ze 60 false false=0:=by decide +kernel
theorem tm63ff:ze 63 false false=0:=by decide +kernel
theorem tm66ff:ze 66 false false=0:=by decide +kernel
theorem tm69ff:ze 69 false false=0:=by decide +kernel
theorem tm72ff:ze 72 false false=0:=by decide +kernel
theorem tm75ff:ze 75 false false=0:=by decide +kernel
theorem tm78ff:ze 78 false false=0:=by decide +kernel
theorem tm81ff:ze 81 false false=0:=by decide +kernel
theorem tm84ff:ze 84 false false=0:=by decide +kernel
theorem tm87ff:ze 87 false false=0:=by decide +kernel
theorem tm90ff:ze 90 false false=0:=by decide +kernel
theorem tm93ff:ze 93 false false=0:=by decide +kernel
theorem tm96ff:ze 96 false false=0:=by decide +kernel
theorem tm99ff:ze 99 false false=0:=by decide +kernel
theorem tm102ff:ze 102 false false=0:=by decide +kernel
theorem tm105ff:ze 105 false false=0:=by decide +kernel
theorem tm108ff:ze 108 false false=0:=by decide +kernel
theorem tm111ff:ze 111 false false=0:=by decide +kernel
theorem tm114ff:ze 114 false false=0:=by decide +kernel
theorem tm117ff:ze 117 false false=0:=by decide +kernel
theorem tm120ff:ze 120 false false=0:=by decide +kernel
theorem tm123ff:ze 123 false false=0:=by decide +kernel
theorem tm126ff:ze 126 false false=0:=by decide +kernel
end Go.Ev.X
end
