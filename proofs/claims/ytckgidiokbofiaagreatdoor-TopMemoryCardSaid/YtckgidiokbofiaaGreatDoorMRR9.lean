import Derived.Test.YtckgidiokbofiaaGreatDoorMTS
set_option linter.unusedSimpArgs false
set_option linter.unusedVariables false
set_option maxRecDepth 100000
noncomputable section
namespace Go.Ev.X
open Go Go.Ev Go.Proofs
theorem tm2ft:ze 2 false true=0:=by decide +kernel
theorem tm5ft:ze 5 false true=0:=by decide +kernel
theorem tm8ft:ze 8 false true=0:=by decide +kernel
theorem tm11ft:ze 11 false true=0:=by decide +kernel
theorem tm14ft:ze 14 false true=0:=by decide +kernel
theorem tm17ft:ze 17 false true=0:=by decide +kernel
theorem tm20ft:ze 20 false true=0:=by decide +kernel
theorem tm23ft:ze 23 false true=0:=by decide +kernel
theorem tm26ft:ze 26 false true=0:=by decide +kernel
theorem tm29ft:ze 29 false true=0:=by decide +kernel
theorem tm32ft:ze 32 false true=0:=by decide +kernel
theorem tm35ft:ze 35 false true=0:=by decide +kernel
theorem tm38ft:ze 38 false true=0:=by decide +kernel
theorem tm41ft:ze 41 false true=0:=by decide +kernel
theorem tm44ft:ze 44 false true=0:=by decide +kernel
theorem tm47ft:ze 47 false true=0:=by decide +kernel
theorem tm50ft:ze 50 false true=0:=by decide +kernel
theorem tm53ft:ze 53 false true=0:=by decide +kernel
theorem tm56ft:ze 56 false true=0:=by decide +kernel
theorem tm59ft:ze 59 false true=0:=by decide +kernel
theorem tm62ft:ze 62 false true=0:=by decide +kernel
theorem tm65ft:ze 65 false true=0:=by decide +kernel
theorem tm68ft:ze 68 false true=0:=by decide +kernel
theorem tm71ft:ze 71 false true=0:=by decide +kernel
theorem tm74ft:ze 74 false true=0:=by decide +kernel
theorem tm77ft:ze 77 false true=0:=by decide +kernel
theorem tm80ft:ze 80 false true=0:=by decide +kernel
theorem tm83ft:ze 83 false true=0:=by decide +kernel
theorem tm86ft:ze 86 false true=0:=by decide +kernel
theorem tm89ft:ze 89 false true=0:=by decide +kernel
theorem tm92ft:ze 92 false true=0:=by decide +kernel
theorem tm95ft:ze 95 false true=0:=by decide +kernel
theorem tm98ft:ze 98 false true=0:=by decide +kernel
theorem tm101ft:ze 101 false true=0:=by decide +kernel
theorem tm104ft:ze 104 false true=0:=by decide +kernel
theorem tm107ft:ze 107 false true=0:=by decide +kernel
theorem tm110ft:ze 110 false true=0:=by decide +kernel
theorem tm113ft:ze 113 false true=0:=by decide +kernel
theorem tm116ft:ze 116 false true=0:=by decide +kernel
theorem tm119ft:ze 119 false true=0:=by decide +kernel
theorem tm122ft:ze 122 false true=0:=by decide +kernel
theorem tm125ft:ze 125 false true=0:=by decide +kernel
end Go.Ev.X
end
