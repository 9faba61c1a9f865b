import Derived.Test.YtckgidiokbofiaaGreatDoorMTS
set_option linter.unusedSimpArgs false
set_option linter.unusedVariables false
set_option maxRecDepth 100000
noncomputable section
namespace Go.Ev.X
open Go Go.Ev Go.Proofs
theorem tm2tt:ze 2 true true=0:=by decide +kernel
theorem tm5tt:ze 5 true true=0:=by decide +kernel
theorem tm8tt:ze 8 true true=0:=by decide +kernel
theorem tm11tt:ze 11 true true=0:=by decide +kernel
theorem tm14tt:ze 14 true true=0:=by decide +kernel
theorem tm17tt:ze 17 true true=0:=by decide +kernel
theorem tm20tt:ze 20 true true=0:=by decide +kernel
theorem tm23tt:ze 23 true true=0:=by decide +kernel
theorem tm26tt:ze 26 true true=0:=by decide +kernel
theorem tm29tt:ze 29 true true=0:=by decide +kernel
theorem tm32tt:ze 32 true true=0:=by decide +kernel
theorem tm35tt:ze 35 true true=0:=by decide +kernel
theorem tm38tt:ze 38 true true=0:=by decide +kernel
theorem tm41tt:ze 41 true true=0:=by decide +kernel
theorem tm44tt:ze 44 true true=0:=by decide +kernel
theorem tm47tt:ze 47 true true=0:=by decide +kernel
theorem tm50tt:ze 50 true true=0:=by decide +kernel
theorem tm53tt:ze 53 true true=0:=by decide +kernel
theorem tm56tt:ze 56 true true=0:=by decide +kernel
theorem tm59tt:ze 59 true true=0:=by decide +kernel
theorem tm62tt:ze 62 true true=0:=by decide +kernel
theorem tm65tt:ze 65 true true=0:=by decide +kernel
theorem tm68tt:ze 68 true true=0:=by decide +kernel
theorem tm71tt:ze 71 true true=0:=by decide +kernel
theorem tm74tt:ze 74 true true=0:=by decide +kernel
theorem tm77tt:ze 77 true true=0:=by decide +kernel
theorem tm80tt:ze 80 true true=0:=by decide +kernel
theorem tm83tt:ze 83 true true=0:=by decide +kernel
theorem tm86tt:ze 86 true true=0:=by decide +kernel
theorem tm89tt:ze 89 true true=0:=by decide +kernel
theorem tm92tt:ze 92 true true=0:=by decide +kernel
theorem tm95tt:ze 95 true true=0:=by decide +kernel
theorem tm98tt:ze 98 true true=0:=by decide +kernel
theorem tm101tt:ze 101 true true=0:=by decide +kernel
theorem tm104tt:ze 104 true true=0:=by decide +kernel
theorem tm107tt:ze 107 true true=0:=by decide +kernel
theorem tm110tt:ze 110 true true=0:=by decide +kernel
theorem tm113tt:ze 113 true true=0:=by decide +kernel
theorem tm116tt:ze 116 true true=0:=by decide +kernel
theorem tm119tt:ze 119 true true=0:=by decide +kernel
theorem tm122tt:ze 122 true true=0:=by decide +kernel
theorem tm125tt:ze 125 true true=0:=by decide +kernel
end Go.Ev.X
end
