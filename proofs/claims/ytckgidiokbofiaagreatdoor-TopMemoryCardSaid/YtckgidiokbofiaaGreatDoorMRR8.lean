import Derived.Test.YtckgidiokbofiaaGreatDoorMTS
set_option linter.unusedSimpArgs false
set_option linter.unusedVariables false
set_option maxRecDepth 100000
noncomputable section
namespace Go.Ev.X
open Go Go.Ev Go.Proofs
theorem tm2ff:ze 2 false false=0:=by decide +kernel
theorem tm5ff:ze 5 false false=0:=by decide +kernel
theorem tm8ff:ze 8 false false=0:=by decide +kernel
theorem tm11ff:ze 11 false false=0:=by decide +kernel
theorem tm14ff:ze 14 false false=0:=by decide +kernel
theorem tm17ff:ze 17 false false=0:=by decide +kernel
theorem tm20ff:ze 20 false false=0:=by decide +kernel
theorem tm23ff:ze 23 false false=0:=by decide +kernel
theorem tm26ff:ze 26 false false=0:=by decide +kernel
theorem tm29ff:ze 29 false false=0:=by decide +kernel
theorem tm32ff:ze 32 false false=0:=by decide +kernel
theorem tm35ff:ze 35 false false=0:=by decide +kernel
theorem tm38ff:ze 38 false false=0:=by decide +kernel
theorem tm41ff:ze 41 false false=0:=by decide +kernel
theorem tm44ff:ze 44 false false=0:=by decide +kernel
theorem tm47ff:ze 47 false false=0:=by decide +kernel
theorem tm50ff:ze 50 false false=0:=by decide +kernel
theorem tm53ff:ze 53 false false=0:=by decide +kernel
theorem tm56ff:ze 56 false false=0:=by decide +kernel
theorem tm59ff:ze 59 false false=0:=by decide +kernel
theorem tm62ff:ze 62 false false=0:=by decide +kernel
theorem tm65ff:ze 65 false false=0:=by decide +kernel
theorem tm68ff:ze 68 false false=0:=by decide +kernel
theorem tm71ff:ze 71 false false=0:=by decide +kernel
theorem tm74ff:ze 74 false false=0:=by decide +kernel
theorem tm77ff:ze 77 false false=0:=by decide +kernel
theorem tm80ff:ze 80 false false=0:=by decide +kernel
theorem tm83ff:ze 83 false false=0:=by decide +kernel
theorem tm86ff:ze 86 false false=0:=by decide +kernel
theorem tm89ff:ze 89 false false=0:=by decide +kernel
theorem tm92ff:ze 92 false false=0:=by decide +kernel
theorem tm95ff:ze 95 false false=0:=by decide +kernel
theorem tm98ff:ze 98 false false=0:=by decide +kernel
theorem tm101ff:ze 101 false false=0:=by decide +kernel
theorem tm104ff:ze 104 false false=0:=by decide +kernel
theorem tm107ff:ze 107 false false=0:=by decide +kernel
theorem tm110ff:ze 110 false false=0:=by decide +kernel
theorem tm113ff:ze 113 false false=0:=by decide +kernel
theorem tm116ff:ze 116 false false=0:=by decide +kernel
theorem tm119ff:ze 119 false false=0:=by decide +kernel
theorem tm122ff:ze 122 false false=0:=by decide +kernel
theorem tm125ff:ze 125 false false=0:=by decide +kernel
end Go.Ev.X
end
