import Derived.Test.YtckgidiokbofiaaGreatDoorTS
set_option linter.unusedSimpArgs false
set_option linter.unusedVariables false
set_option maxRecDepth 100000
noncomputable section
namespace Go.Ev.X
open Go Go.Ev Go.Proofs
theorem rc2_15:zv 2 15=0:=by decide +kernel
theorem rc5_15:zv 5 15=0:=by decide +kernel
theorem rc0_12:zv 0 12=0:=by decide +kernel
theorem rc2_12:zv 2 12=0:=by decide +kernel
theorem rc2_10:zv 2 10=0:=by decide +kernel
theorem rc4_9:zv 4 9=0:=by decide +kernel
theorem rc4_7:zv 4 7=0:=by decide +kernel
theorem rc4_6:zv 4 6=0:=by decide +kernel
theorem ra0_16:zx 0 16=0:=by decide +kernel
theorem ra2_4:zx 2 4=0:=by decide +kernel
theorem ra3_8:zx 3 8=0:=by decide +kernel
theorem ra4_12:zx 4 12=0:=by decide +kernel
theorem ra5_16:zx 5 16=0:=by decide +kernel
theorem rc1_5:zv 1 5=0:=by decide +kernel
theorem rc1_4:zv 1 4=0:=by decide +kernel
theorem rc0_2:zv 0 2=0:=by decide +kernel
theorem rc6_2:zv 6 2=0:=by decide +kernel
theorem xr0_9_2:(xmX 0 9 2).run cX 18 zc=0:=by decide +kernel
theorem xr1_1_1:(xmX 1 1 1).run cX 18 zc=0:=by decide +kernel
theorem xr1_8_0:(xmX 1 8 0).run cX 18 zc=0:=by decide +kernel
theorem zto:(xmX 1 15 0).run cX 18 zc=0:=by decide +kernel
theorem xr2_6_1:(xmX 2 6 1).run cX 18 zc=0:=by decide +kernel
theorem zte:(xmX 2 13 0).run cX 18 zc=0:=by decide +kernel
theorem xr3_4_2:(xmX 3 4 2).run cX 18 zc=0:=by decide +kernel
theorem zs4:(xmX 3 11 1).run cX 18 zc=0:=by decide +kernel
theorem xr4_3_0:(xmX 4 3 0).run cX 18 zc=0:=by decide +kernel
theorem xr4_9_2:(xmX 4 9 2).run cX 18 zc=0:=by decide +kernel
theorem xr5_1_1:(xmX 5 1 1).run cX 18 zc=0:=by decide +kernel
theorem xr5_8_0:(xmX 5 8 0).run cX 18 zc=0:=by decide +kernel
theorem zsp:(xmX 5 15 0).run cX 18 zc=0:=by decide +kernel
theorem xr6_6_1:(xmX 6 6 1).run cX 18 zc=0:=by decide +kernel
theorem zsf:(xmX 6 13 0).run cX 18 zc=0:=by decide +kernel
theorem rd1_15:zu 1 15=0:=by decide +kernel
theorem rd2_16:zu 2 16=0:=by decide +kernel
theorem rd4_1:zu 4 1=0:=by decide +kernel
theorem rd5_2:zu 5 2=0:=by decide +kernel
theorem rd6_3:zu 6 3=0:=by decide +kernel
end Go.Ev.X
end
