import Derived.Test.YtckgidiokbofiaaGreatDoorTS
set_option linter.unusedSimpArgs false
set_option linter.unusedVariables false
set_option maxRecDepth 100000
noncomputable section
namespace Go.Ev.X
open Go Go.Ev Go.Proofs
theorem rc1_16:zv 1 16=0:=by decide +kernel
theorem rc0_14:zv 0 14=0:=by decide +kernel
theorem rc6_14:zv 6 14=0:=by decide +kernel
theorem rc4_11:zv 4 11=0:=by decide +kernel
theorem rc4_10:zv 4 10=0:=by decide +kernel
theorem rc6_9:zv 6 9=0:=by decide +kernel
theorem rc6_7:zv 6 7=0:=by decide +kernel
theorem rc6_6:zv 6 6=0:=by decide +kernel
theorem ra1_10:zx 1 10=0:=by decide +kernel
theorem ra2_14:zx 2 14=0:=by decide +kernel
theorem ra4_2:zx 4 2=0:=by decide +kernel
theorem ra5_6:zx 5 6=0:=by decide +kernel
theorem ra6_10:zx 6 10=0:=by decide +kernel
theorem rc6_5:zv 6 5=0:=by decide +kernel
theorem rc2_3:zv 2 3=0:=by decide +kernel
theorem rc5_3:zv 5 3=0:=by decide +kernel
theorem xr0_0_1:(xmX 0 0 1).run cX 18 zc=0:=by decide +kernel
theorem xr0_1_2:(xmX 0 1 2).run cX 18 zc=0:=by decide +kernel
theorem xr0_3_0:(xmX 0 3 0).run cX 18 zc=0:=by decide +kernel
theorem xr0_4_1:(xmX 0 4 1).run cX 18 zc=0:=by decide +kernel
theorem ztO:(xmX 0 11 0).run cX 18 zc=0:=by decide +kernel
theorem xr1_2_2:(xmX 1 2 2).run cX 18 zc=0:=by decide +kernel
theorem xr1_9_1:(xmX 1 9 1).run cX 18 zc=0:=by decide +kernel
theorem xr2_1_0:(xmX 2 1 0).run cX 18 zc=0:=by decide +kernel
theorem xr2_7_2:(xmX 2 7 2).run cX 18 zc=0:=by decide +kernel
theorem zta:(xmX 2 14 1).run cX 18 zc=0:=by decide +kernel
theorem xr3_6_0:(xmX 3 6 0).run cX 18 zc=0:=by decide +kernel
theorem zs0:(xmX 3 12 2).run cX 18 zc=0:=by decide +kernel
theorem xr4_4_1:(xmX 4 4 1).run cX 18 zc=0:=by decide +kernel
theorem zsP:(xmX 4 11 0).run cX 18 zc=0:=by decide +kernel
theorem xr5_2_2:(xmX 5 2 2).run cX 18 zc=0:=by decide +kernel
theorem xr5_9_1:(xmX 5 9 1).run cX 18 zc=0:=by decide +kernel
theorem xr6_1_0:(xmX 6 1 0).run cX 18 zc=0:=by decide +kernel
theorem xr6_7_2:(xmX 6 7 2).run cX 18 zc=0:=by decide +kernel
theorem zsb:(xmX 6 14 1).run cX 18 zc=0:=by decide +kernel
end Go.Ev.X
end
