import Derived.Test.YtckgidiokbofiaaGreatDoorTS
set_option linter.unusedSimpArgs false
set_option linter.unusedVariables false
set_option maxRecDepth 100000
noncomputable section
namespace Go.Ev.X
open Go Go.Ev Go.Proofs
theorem rb0_16:zw 0 16=0:=by decide +kernel
theorem rb6_15:zw 6 15=0:=by decide +kernel
theorem rb1_12:zw 1 12=0:=by decide +kernel
theorem rb3_12:zw 3 12=0:=by decide +kernel
theorem rb3_10:zw 3 10=0:=by decide +kernel
theorem rb5_9:zw 5 9=0:=by decide +kernel
theorem rb5_7:zw 5 7=0:=by decide +kernel
theorem rb5_6:zw 5 6=0:=by decide +kernel
theorem ra1_7:zx 1 7=0:=by decide +kernel
theorem ra2_11:zx 2 11=0:=by decide +kernel
theorem ra3_15:zx 3 15=0:=by decide +kernel
theorem ra5_3:zx 5 3=0:=by decide +kernel
theorem ra6_7:zx 6 7=0:=by decide +kernel
theorem rb5_5:zw 5 5=0:=by decide +kernel
theorem rb1_3:zw 1 3=0:=by decide +kernel
theorem rb4_3:zw 4 3=0:=by decide +kernel
theorem rb6_1:zw 6 1=0:=by decide +kernel
theorem ztR:(xmX 0 10 0).run cX 18 zc=0:=by decide +kernel
theorem xr1_1_2:(xmX 1 1 2).run cX 18 zc=0:=by decide +kernel
theorem xr1_8_1:(xmX 1 8 1).run cX 18 zc=0:=by decide +kernel
theorem xr2_0_0:(xmX 2 0 0).run cX 18 zc=0:=by decide +kernel
theorem xr2_6_2:(xmX 2 6 2).run cX 18 zc=0:=by decide +kernel
theorem ztd:(xmX 2 13 1).run cX 18 zc=0:=by decide +kernel
theorem xr3_5_0:(xmX 3 5 0).run cX 18 zc=0:=by decide +kernel
theorem zs3:(xmX 3 11 2).run cX 18 zc=0:=by decide +kernel
theorem xr4_3_1:(xmX 4 3 1).run cX 18 zc=0:=by decide +kernel
theorem zsT:(xmX 4 10 0).run cX 18 zc=0:=by decide +kernel
theorem xr5_1_2:(xmX 5 1 2).run cX 18 zc=0:=by decide +kernel
theorem xr5_8_1:(xmX 5 8 1).run cX 18 zc=0:=by decide +kernel
theorem xr6_0_0:(xmX 6 0 0).run cX 18 zc=0:=by decide +kernel
theorem xr6_6_2:(xmX 6 6 2).run cX 18 zc=0:=by decide +kernel
theorem zse:(xmX 6 13 1).run cX 18 zc=0:=by decide +kernel
theorem rd1_16:zu 1 16=0:=by decide +kernel
theorem rd3_1:zu 3 1=0:=by decide +kernel
theorem rd4_2:zu 4 2=0:=by decide +kernel
theorem rd5_3:zu 5 3=0:=by decide +kernel
theorem rd6_4:zu 6 4=0:=by decide +kernel
end Go.Ev.X
end
