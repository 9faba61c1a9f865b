import Derived.Test.YtckgidiokbofiaaGreatDoorTS
set_option linter.unusedSimpArgs false
set_option linter.unusedVariables false
set_option maxRecDepth 100000
noncomputable section
namespace Go.Ev.X
open Go Go.Ev Go.Proofs
theorem rc4_16:zv 4 16=0:=by decide +kernel
theorem rc3_14:zv 3 14=0:=by decide +kernel
theorem rc2_13:zv 2 13=0:=by decide +kernel
theorem rc6_12:zv 6 12=0:=by decide +kernel
theorem rc0_9:zv 0 9=0:=by decide +kernel
theorem rc1_9:zv 1 9=0:=by decide +kernel
theorem rc6_8:zv 6 8=0:=by decide +kernel
theorem ra0_6:zx 0 6=0:=by decide +kernel
theorem ra1_6:zx 1 6=0:=by decide +kernel
theorem ra2_10:zx 2 10=0:=by decide +kernel
theorem ra3_14:zx 3 14=0:=by decide +kernel
theorem ra5_2:zx 5 2=0:=by decide +kernel
theorem ra6_6:zx 6 6=0:=by decide +kernel
theorem rc4_5:zv 4 5=0:=by decide +kernel
theorem rc4_4:zv 4 4=0:=by decide +kernel
theorem rc3_2:zv 3 2=0:=by decide +kernel
theorem rc2_1:zv 2 1=0:=by decide +kernel
theorem xr0_7_0:(xmX 0 7 0).run cX 18 zc=0:=by decide +kernel
theorem ztG:(xmX 0 13 2).run cX 18 zc=0:=by decide +kernel
theorem xr1_5_1:(xmX 1 5 1).run cX 18 zc=0:=by decide +kernel
theorem ztw:(xmX 1 12 0).run cX 18 zc=0:=by decide +kernel
theorem xr2_3_2:(xmX 2 3 2).run cX 18 zc=0:=by decide +kernel
theorem ztm:(xmX 2 10 1).run cX 18 zc=0:=by decide +kernel
theorem xr3_2_0:(xmX 3 2 0).run cX 18 zc=0:=by decide +kernel
theorem xr3_8_2:(xmX 3 8 2).run cX 18 zc=0:=by decide +kernel
theorem xr4_0_1:(xmX 4 0 1).run cX 18 zc=0:=by decide +kernel
theorem xr4_7_0:(xmX 4 7 0).run cX 18 zc=0:=by decide +kernel
theorem zsH:(xmX 4 13 2).run cX 18 zc=0:=by decide +kernel
theorem xr5_5_1:(xmX 5 5 1).run cX 18 zc=0:=by decide +kernel
theorem zsx:(xmX 5 12 0).run cX 18 zc=0:=by decide +kernel
theorem xr6_3_2:(xmX 6 3 2).run cX 18 zc=0:=by decide +kernel
theorem zsn:(xmX 6 10 1).run cX 18 zc=0:=by decide +kernel
theorem rd1_7:zu 1 7=0:=by decide +kernel
theorem rd2_8:zu 2 8=0:=by decide +kernel
theorem rd3_9:zu 3 9=0:=by decide +kernel
theorem rd4_10:zu 4 10=0:=by decide +kernel
theorem rd5_11:zu 5 11=0:=by decide +kernel
theorem rd6_12:zu 6 12=0:=by decide +kernel
end Go.Ev.X
end
