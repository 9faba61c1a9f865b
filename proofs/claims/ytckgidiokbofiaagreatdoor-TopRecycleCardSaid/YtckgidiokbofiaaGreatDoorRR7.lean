import Derived.Test.YtckgidiokbofiaaGreatDoorTS
set_option linter.unusedSimpArgs false
set_option linter.unusedVariables false
set_option maxRecDepth 100000
noncomputable section
namespace Go.Ev.X
open Go Go.Ev Go.Proofs
theorem rc3_16:zv 3 16=0:=by decide +kernel
theorem rc2_14:zv 2 14=0:=by decide +kernel
theorem rc1_13:zv 1 13=0:=by decide +kernel
theorem rc5_12:zv 5 12=0:=by decide +kernel
theorem rc6_10:zv 6 10=0:=by decide +kernel
theorem rc1_8:zv 1 8=0:=by decide +kernel
theorem rc5_8:zv 5 8=0:=by decide +kernel
theorem ra0_4:zx 0 4=0:=by decide +kernel
theorem ra1_4:zx 1 4=0:=by decide +kernel
theorem ra2_8:zx 2 8=0:=by decide +kernel
theorem ra3_12:zx 3 12=0:=by decide +kernel
theorem ra4_16:zx 4 16=0:=by decide +kernel
theorem ra6_4:zx 6 4=0:=by decide +kernel
theorem rc3_5:zv 3 5=0:=by decide +kernel
theorem rc3_4:zv 3 4=0:=by decide +kernel
theorem rc2_2:zv 2 2=0:=by decide +kernel
theorem rc1_1:zv 1 1=0:=by decide +kernel
theorem xr0_6_1:(xmX 0 6 1).run cX 18 zc=0:=by decide +kernel
theorem ztI:(xmX 0 13 0).run cX 18 zc=0:=by decide +kernel
theorem xr1_4_2:(xmX 1 4 2).run cX 18 zc=0:=by decide +kernel
theorem zty:(xmX 1 11 1).run cX 18 zc=0:=by decide +kernel
theorem xr2_3_0:(xmX 2 3 0).run cX 18 zc=0:=by decide +kernel
theorem xr2_9_2:(xmX 2 9 2).run cX 18 zc=0:=by decide +kernel
theorem xr3_1_1:(xmX 3 1 1).run cX 18 zc=0:=by decide +kernel
theorem xr3_8_0:(xmX 3 8 0).run cX 18 zc=0:=by decide +kernel
theorem zsU:(xmX 3 15 0).run cX 18 zc=0:=by decide +kernel
theorem xr4_6_1:(xmX 4 6 1).run cX 18 zc=0:=by decide +kernel
theorem zsJ:(xmX 4 13 0).run cX 18 zc=0:=by decide +kernel
theorem xr5_4_2:(xmX 5 4 2).run cX 18 zc=0:=by decide +kernel
theorem zsz:(xmX 5 11 1).run cX 18 zc=0:=by decide +kernel
theorem xr6_3_0:(xmX 6 3 0).run cX 18 zc=0:=by decide +kernel
theorem xr6_9_2:(xmX 6 9 2).run cX 18 zc=0:=by decide +kernel
theorem rd1_5:zu 1 5=0:=by decide +kernel
theorem rd2_6:zu 2 6=0:=by decide +kernel
theorem rd3_7:zu 3 7=0:=by decide +kernel
theorem rd4_8:zu 4 8=0:=by decide +kernel
theorem rd5_9:zu 5 9=0:=by decide +kernel
theorem rd6_10:zu 6 10=0:=by decide +kernel
end Go.Ev.X
end
