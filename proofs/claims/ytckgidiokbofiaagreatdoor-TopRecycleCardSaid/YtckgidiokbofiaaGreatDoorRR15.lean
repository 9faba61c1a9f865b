import Derived.Test.YtckgidiokbofiaaGreatDoorTS
set_option linter.unusedSimpArgs false
set_option linter.unusedVariables false
set_option maxRecDepth 100000
noncomputable section
namespace Go.Ev.X
open Go Go.Ev Go.Proofs
theorem rc0_15:zv 0 15=0:=by decide +kernel
theorem rc3_15:zv 3 15=0:=by decide +kernel
theorem rc5_13:zv 5 13=0:=by decide +kernel
theorem rc2_11:zv 2 11=0:=by decide +kernel
theorem rc0_10:zv 0 10=0:=by decide +kernel
theorem rc2_9:zv 2 9=0:=by decide +kernel
theorem rc2_7:zv 2 7=0:=by decide +kernel
theorem rc2_6:zv 2 6=0:=by decide +kernel
theorem ra0_12:zx 0 12=0:=by decide +kernel
theorem ra1_16:zx 1 16=0:=by decide +kernel
theorem ra3_4:zx 3 4=0:=by decide +kernel
theorem ra4_8:zx 4 8=0:=by decide +kernel
theorem ra5_12:zx 5 12=0:=by decide +kernel
theorem ra6_16:zx 6 16=0:=by decide +kernel
theorem rc0_3:zv 0 3=0:=by decide +kernel
theorem rc3_3:zv 3 3=0:=by decide +kernel
theorem rc5_1:zv 5 1=0:=by decide +kernel
theorem xr0_9_0:(xmX 0 9 0).run cX 18 zc=0:=by decide +kernel
theorem xr1_0_2:(xmX 1 0 2).run cX 18 zc=0:=by decide +kernel
theorem xr1_7_1:(xmX 1 7 1).run cX 18 zc=0:=by decide +kernel
theorem ztq:(xmX 1 14 0).run cX 18 zc=0:=by decide +kernel
theorem xr2_5_2:(xmX 2 5 2).run cX 18 zc=0:=by decide +kernel
theorem ztg:(xmX 2 12 1).run cX 18 zc=0:=by decide +kernel
theorem xr3_4_0:(xmX 3 4 0).run cX 18 zc=0:=by decide +kernel
theorem zs6:(xmX 3 10 2).run cX 18 zc=0:=by decide +kernel
theorem xr4_2_1:(xmX 4 2 1).run cX 18 zc=0:=by decide +kernel
theorem xr4_9_0:(xmX 4 9 0).run cX 18 zc=0:=by decide +kernel
theorem xr5_0_2:(xmX 5 0 2).run cX 18 zc=0:=by decide +kernel
theorem xr5_7_1:(xmX 5 7 1).run cX 18 zc=0:=by decide +kernel
theorem zsr:(xmX 5 14 0).run cX 18 zc=0:=by decide +kernel
theorem xr6_5_2:(xmX 6 5 2).run cX 18 zc=0:=by decide +kernel
theorem zsh:(xmX 6 12 1).run cX 18 zc=0:=by decide +kernel
theorem rd1_13:zu 1 13=0:=by decide +kernel
theorem rd2_14:zu 2 14=0:=by decide +kernel
theorem rd3_15:zu 3 15=0:=by decide +kernel
theorem rd4_16:zu 4 16=0:=by decide +kernel
theorem rd6_1:zu 6 1=0:=by decide +kernel
end Go.Ev.X
end
