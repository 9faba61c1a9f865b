import Derived.Test.YtckgidiokbofiaaGreatDoorMTS
set_option linter.unusedSimpArgs false
set_option linter.unusedVariables false
set_option maxRecDepth 100000
noncomputable section
namespace Go.Ev.X
open Go Go.Ev Go.Proofs
theorem tm0tf:ze 0 true false=0:=by decide +kernel
theorem tm3tf:ze 3 true false=0:=by decide +kernel
theorem tm6tf:ze 6 true false=0:=by decide +kernel
theorem tm9tf:ze 9 true false=0:=by decide +kernel
theorem tm12tf:ze 12 true false=0:=by decide +kernel
theorem tm15tf:ze 15 true false=0:=by decide +kernel
theorem tm18tf:ze 18 true false=0:=by decide +kernel
theorem tm21tf:ze 21 true false=0:=by decide +kernel
theorem tm24tf:ze 24 true false=0:=by decide +kernel
theorem tm27tf:ze 27 true false=0:=by decide +kernel
theorem tm30tf:ze 30 true false=0:=by decide +kernel
theorem tm33tf:ze 33 true false=0:=by decide +kernel
theorem tm36tf:ze 36 true false=0:=by decide +kernel
theorem tm39tf:ze 39 true false=0:=by decide +kernel
theorem tm42tf:ze 42 true false=0:=by decide +kernel
theorem tm45tf:ze 45 true false=0:=by decide +kernel
theorem tm48tf:ze 48 true false=0:=by decide +kernel
theorem tm51tf:ze 51 true false=0:=by decide +kernel
theorem tm54tf:ze 54 true false=0:=by decide +kernel
theorem tm57tf:ze 57 true false=0:=by decide +kernel
theorem tm60tf:ze 60 true false=0:=by decide +kernel
theorem tm63tf:ze 63 true false=0:=by decide +kernel
theorem tm66tf:ze 66 true false=0:=by decide +kernel
theorem tm69tf:ze 69 true false=0:=by decide +kernel
theorem tm72tf:ze 72 true false=0:=by decide +kernel
theorem tm75tf:ze 75 true false=0:=by decide +kernel
theorem tm78tf:ze 78 true false=0:=by decide +kernel
theorem tm81tf:ze 81 true false=0:=by decide +kernel
theorem tm84tf:ze 84 true false=0:=by decide +kernel
theorem tm87tf:ze 87 true false=0:=by decide +kernel
theorem tm90tf:ze 90 true false=0:=by decide +kernel
theorem tm93tf:ze 93 true false=0:=by decide +kernel
theorem tm96tf:ze 96 true false=0:=by decide +kernel
theorem tm99tf:ze 99 true false=0:=by decide +kernel
theorem tm102tf:ze 102 true false=0:=by decide +kernel
theorem tm105tf:ze 105 true false=0:=by decide +kernel
theorem tm108tf:ze 108 true false=0:=by decide +kernel
theorem tm111tf:ze 111 true false=0:=by decide +kernel
theorem tm114tf:ze 114 true false=0:=by decide +kernel
theorem tm117tf:ze 117 true false=0:=by decide +kernel
theorem tm120tf:ze 120 true false=0:=by decide +kernel
theorem tm123tf:ze 123 true false=0:=by decide +kernel
theorem tm126tf:ze 126 true false=0:=by decide +kernel
end Go.Ev.X
end
