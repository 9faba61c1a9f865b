import Derived.Test.YtckgidiokbofiaaGreatDoorTS
set_option linter.unusedSimpArgs false
set_option linter.unusedVariables false
set_option maxRecDepth 100000
noncomputable section
namespace Go.Ev.X
open Go Go.Ev Go.Proofs
theorem rc0_16:zv 0 16=0:=by decide +kernel
theorem rc6_15:zv 6 15=0:=by decide +kernel
theorem rc1_12:zv 1 12=0:=by decide +kernel
theorem rc3_12:zv 3 12=0:=by decide +kernel
theorem rc3_10:zv 3 10=0:=by decide +kernel
theorem rc5_9:zv 5 9=0:=by decide +kernel
theorem rc5_7:zv 5 7=0:=by decide +kernel
theorem rc5_6:zv 5 6=0:=by decide +kernel
theorem ra1_8:zx 1 8=0:=by decide +kernel
theorem ra2_12:zx 2 12=0:=by decide +kernel
theorem ra3_16:zx 3 16=0:=by decide +kernel
theorem ra5_4:zx 5 4=0:=by decide +kernel
theorem ra6_8:zx 6 8=0:=by decide +kernel
theorem rc5_5:zv 5 5=0:=by decide +kernel
theorem rc1_3:zv 1 3=0:=by decide +kernel
theorem rc4_3:zv 4 3=0:=by decide +kernel
theorem rc6_1:zv 6 1=0:=by decide +kernel
theorem ztQ:(xmX 0 10 1).run cX 18 zc=0:=by decide +kernel
theorem xr1_2_0:(xmX 1 2 0).run cX 18 zc=0:=by decide +kernel
theorem xr1_8_2:(xmX 1 8 2).run cX 18 zc=0:=by decide +kernel
theorem xr2_0_1:(xmX 2 0 1).run cX 18 zc=0:=by decide +kernel
theorem xr2_7_0:(xmX 2 7 0).run cX 18 zc=0:=by decide +kernel
theorem ztc:(xmX 2 13 2).run cX 18 zc=0:=by decide +kernel
theorem xr3_5_1:(xmX 3 5 1).run cX 18 zc=0:=by decide +kernel
theorem zs2:(xmX 3 12 0).run cX 18 zc=0:=by decide +kernel
theorem xr4_3_2:(xmX 4 3 2).run cX 18 zc=0:=by decide +kernel
theorem zsS:(xmX 4 10 1).run cX 18 zc=0:=by decide +kernel
theorem xr5_2_0:(xmX 5 2 0).run cX 18 zc=0:=by decide +kernel
theorem xr5_8_2:(xmX 5 8 2).run cX 18 zc=0:=by decide +kernel
theorem xr6_0_1:(xmX 6 0 1).run cX 18 zc=0:=by decide +kernel
theorem xr6_7_0:(xmX 6 7 0).run cX 18 zc=0:=by decide +kernel
theorem zsd:(xmX 6 13 2).run cX 18 zc=0:=by decide +kernel
theorem rd2_1:zu 2 1=0:=by decide +kernel
theorem rd3_2:zu 3 2=0:=by decide +kernel
theorem rd4_3:zu 4 3=0:=by decide +kernel
theorem rd5_4:zu 5 4=0:=by decide +kernel
theorem rd6_5:zu 6 5=0:=by decide +kernel
end Go.Ev.X
end
