import Derived.Test.YtckgidiokbofiaaGreatDoorTS
set_option linter.unusedSimpArgs false
set_option linter.unusedVariables false
set_option maxRecDepth 100000
noncomputable section
namespace Go.Ev.X
open Go Go.Ev Go.Proofs
theorem rc5_16:zv 5 16=0:=by decide +kernel
theorem rc4_14:zv 4 14=0:=by decide +kernel
theorem rc3_13:zv 3 13=0:=by decide +kernel
theorem rc0_11:zv 0 11=0:=by decide +kernel
theorem rc5_11:zv 5 11=0:=by decide +kernel
theorem rc2_8:zv 2 8=0:=by decide +kernel
theorem rc0_7:zv 0 7=0:=by decide +kernel
theorem rc0_6:zv 0 6=0:=by decide +kernel
theorem ra0_8:zx 0 8=0:=by decide +kernel
theorem ra1_12:zx 1 12=0:=by decide +kernel
theorem ra2_16:zx 2 16=0:=by decide +kernel
theorem ra4_4:zx 4 4=0:=by decide +kernel
theorem ra5_8:zx 5 8=0:=by decide +kernel
theorem ra6_12:zx 6 12=0:=by decide +kernel
theorem rc5_4:zv 5 4=0:=by decide +kernel
theorem rc4_2:zv 4 2=0:=by decide +kernel
theorem rc3_1:zv 3 1=0:=by decide +kernel
theorem xr0_7_2:(xmX 0 7 2).run cX 18 zc=0:=by decide +kernel
theorem ztE:(xmX 0 14 1).run cX 18 zc=0:=by decide +kernel
theorem xr1_6_0:(xmX 1 6 0).run cX 18 zc=0:=by decide +kernel
theorem ztu:(xmX 1 12 2).run cX 18 zc=0:=by decide +kernel
theorem xr2_4_1:(xmX 2 4 1).run cX 18 zc=0:=by decide +kernel
theorem ztk:(xmX 2 11 0).run cX 18 zc=0:=by decide +kernel
theorem xr3_2_2:(xmX 3 2 2).run cX 18 zc=0:=by decide +kernel
theorem xr3_9_1:(xmX 3 9 1).run cX 18 zc=0:=by decide +kernel
theorem xr4_1_0:(xmX 4 1 0).run cX 18 zc=0:=by decide +kernel
theorem xr4_7_2:(xmX 4 7 2).run cX 18 zc=0:=by decide +kernel
theorem zsF:(xmX 4 14 1).run cX 18 zc=0:=by decide +kernel
theorem xr5_6_0:(xmX 5 6 0).run cX 18 zc=0:=by decide +kernel
theorem zsv:(xmX 5 12 2).run cX 18 zc=0:=by decide +kernel
theorem xr6_4_1:(xmX 6 4 1).run cX 18 zc=0:=by decide +kernel
theorem zsl:(xmX 6 11 0).run cX 18 zc=0:=by decide +kernel
theorem rd1_9:zu 1 9=0:=by decide +kernel
theorem rd2_10:zu 2 10=0:=by decide +kernel
theorem rd3_11:zu 3 11=0:=by decide +kernel
theorem rd4_12:zu 4 12=0:=by decide +kernel
theorem rd5_13:zu 5 13=0:=by decide +kernel
theorem rd6_14:zu 6 14=0:=by decide +kernel
end Go.Ev.X
end
