import Derived.Test.YtckgidiokbofiaaGreatDoorMTS
set_option linter.unusedSimpArgs false
set_option linter.unusedVariables false
set_option maxRecDepth 100000
noncomputable section
namespace Go.Ev.X
open Go Go.Ev Go.Proofs
theorem tm2tf:ze 2 true false=0:=by decide +kernel
theorem tm5tf:ze 5 true false=0:=by decide +kernel
theorem tm8tf:ze 8 true false=0:=by decide +kernel
theorem tm11tf:ze 11 true false=0:=by decide +kernel
theorem tm14tf:ze 14 true false=0:=by decide +kernel
theorem tm17tf:ze 17 true false=0:=by decide +kernel
theorem tm20tf:ze 20 true false=0:=by decide +kernel
theorem tm23tf:ze 23 true false=0:=by decide +kernel
theorem tm26tf:ze 26 true false=0:=by decide +kernel
theorem tm29tf:ze 29 true false=0:=by decide +kernel
theorem tm32tf:ze 32 true false=0:=by decide +kernel
theorem tm35tf:ze 35 true false=0:=by decide +kernel
theorem tm38tf:ze 38 true false=0:=by decide +kernel
theorem tm41tf:ze 41 true false=0:=by decide +kernel
theorem tm44tf:ze 44 true false=0:=by decide +kernel
theorem tm47tf:ze 47 true false=0:=by decide +kernel
theorem tm50tf:ze 50 true false=0:=by decide +kernel
theorem tm53tf:ze 53 true false=0:=by decide +kernel
theorem tm56tf:ze 56 true false=0:=by decide +kernel
theorem tm59tf:ze 59 true false=0:=by decide +kernel
theorem tm62tf:ze 62 true false=0:=by decide +kernel
theorem tm65tf:ze 65 true false=0:=by decide +kernel
theorem tm68tf:ze 68 true false=0:=by decide +kernel
theorem tm71tf:ze 71 true false=0:=by decide +kernel
theorem tm74tf:ze 74 true false=0:=by decide +kernel
theorem tm77tf:ze 77 true false=0:=by decide +kernel
theorem tm80tf:ze 80 true false=0:=by decide +kernel
theorem tm83tf:ze 83 true false=0:=by decide +kernel
theorem tm86tf:ze 86 true false=0:=by decide +kernel
theorem tm89tf:ze 89 true false=0:=by decide +kernel
theorem tm92tf:ze 92 true false=0:=by decide +kernel
theorem tm95tf:ze 95 true false=0:=by decide +kernel
theorem tm98tf:ze 98 true false=0:=by decide +kernel
theorem tm101tf:ze 101 true false=0:=by decide +kernel
theorem tm104tf:ze 104 true false=0:=by decide +kernel
theorem tm107tf:ze 107 true false=0:=by decide +kernel
theorem tm110tf:ze 110 true false=0:=by decide +kernel
theorem tm113tf:ze 113 true false=0:=by decide +kernel
theorem tm116tf:ze 116 true false=0:=by decide +kernel
theorem tm119tf:ze 119 true false=0:=by decide +kernel
theorem tm122tf:ze 122 true false=0:=by decide +kernel
theorem tm125tf:ze 125 true false=0:=by decide +kernel
end Go.Ev.X
end
