import Derived.Test.YtckgidiokbofiaaGreatDoorTS
set_option linter.unusedSimpArgs false
set_option linter.unusedVariables false
set_option maxRecDepth 100000
noncomputable section
namespace Go.Ev.X
open Go Go.Ev Go.Proofs
theorem rc2_16:zv 2 16=0:=by decide +kernel
theorem rc1_14:zv 1 14=0:=by decide +kernel
theorem rc0_13:zv 0 13=0:=by decide +kernel
theorem rc4_12:zv 4 12=0:=by decide +kernel
theorem rc5_10:zv 5 10=0:=by decide +kernel
theorem rc0_8:zv 0 8=0:=by decide +kernel
theorem rc4_8:zv 4 8=0:=by decide +kernel
theorem ra0_2:zx 0 2=0:=by decide +kernel
theorem ra1_2:zx 1 2=0:=by decide +kernel
theorem ra2_6:zx 2 6=0:=by decide +kernel
theorem ra3_10:zx 3 10=0:=by decide +kernel
theorem ra4_14:zx 4 14=0:=by decide +kernel
theorem ra6_2:zx 6 2=0:=by decide +kernel
theorem rc2_5:zv 2 5=0:=by decide +kernel
theorem rc2_4:zv 2 4=0:=by decide +kernel
theorem rc1_2:zv 1 2=0:=by decide +kernel
theorem rc0_1:zv 0 1=0:=by decide +kernel
theorem xr0_5_2:(xmX 0 5 2).run cX 18 zc=0:=by decide +kernel
theorem ztK:(xmX 0 12 1).run cX 18 zc=0:=by decide +kernel
theorem xr1_4_0:(xmX 1 4 0).run cX 18 zc=0:=by decide +kernel
theorem ztA:(xmX 1 10 2).run cX 18 zc=0:=by decide +kernel
theorem xr2_2_1:(xmX 2 2 1).run cX 18 zc=0:=by decide +kernel
theorem xr2_9_0:(xmX 2 9 0).run cX 18 zc=0:=by decide +kernel
theorem xr3_0_2:(xmX 3 0 2).run cX 18 zc=0:=by decide +kernel
theorem xr3_7_1:(xmX 3 7 1).run cX 18 zc=0:=by decide +kernel
theorem zsW:(xmX 3 14 0).run cX 18 zc=0:=by decide +kernel
theorem xr4_5_2:(xmX 4 5 2).run cX 18 zc=0:=by decide +kernel
theorem zsL:(xmX 4 12 1).run cX 18 zc=0:=by decide +kernel
theorem xr5_4_0:(xmX 5 4 0).run cX 18 zc=0:=by decide +kernel
theorem zsB:(xmX 5 10 2).run cX 18 zc=0:=by decide +kernel
theorem xr6_2_1:(xmX 6 2 1).run cX 18 zc=0:=by decide +kernel
theorem xr6_9_0:(xmX 6 9 0).run cX 18 zc=0:=by decide +kernel
theorem rd1_3:zu 1 3=0:=by decide +kernel
theorem rd2_4:zu 2 4=0:=by decide +kernel
theorem rd3_5:zu 3 5=0:=by decide +kernel
theorem rd4_6:zu 4 6=0:=by decide +kernel
theorem rd5_7:zu 5 7=0:=by decide +kernel
theorem rd6_8:zu 6 8=0:=by decide +kernel
end Go.Ev.X
end
