import Derived.Test.YtckgidiokbofiaaGreatDoorTS
set_option linter.unusedSimpArgs false
set_option linter.unusedVariables false
set_option maxRecDepth 100000
noncomputable section
namespace Go.Ev.X
open Go Go.Ev Go.Proofs
theorem rb4_16:zw 4 16=0:=by decide +kernel
theorem rb3_14:zw 3 14=0:=by decide +kernel
theorem rb2_13:zw 2 13=0:=by decide +kernel
theorem rb6_12:zw 6 12=0:=by decide +kernel
theorem rb0_9:zw 0 9=0:=by decide +kernel
theorem rb1_9:zw 1 9=0:=by decide +kernel
theorem rb6_8:zw 6 8=0:=by decide +kernel
theorem ra0_5:zx 0 5=0:=by decide +kernel
theorem ra1_5:zx 1 5=0:=by decide +kernel
theorem ra2_9:zx 2 9=0:=by decide +kernel
theorem ra3_13:zx 3 13=0:=by decide +kernel
theorem ra5_1:zx 5 1=0:=by decide +kernel
theorem ra6_5:zx 6 5=0:=by decide +kernel
theorem rb4_5:zw 4 5=0:=by decide +kernel
theorem rb4_4:zw 4 4=0:=by decide +kernel
theorem rb3_2:zw 3 2=0:=by decide +kernel
theorem rb2_1:zw 2 1=0:=by decide +kernel
theorem xr0_6_2:(xmX 0 6 2).run cX 18 zc=0:=by decide +kernel
theorem ztH:(xmX 0 13 1).run cX 18 zc=0:=by decide +kernel
theorem xr1_5_0:(xmX 1 5 0).run cX 18 zc=0:=by decide +kernel
theorem ztx:(xmX 1 11 2).run cX 18 zc=0:=by decide +kernel
theorem xr2_3_1:(xmX 2 3 1).run cX 18 zc=0:=by decide +kernel
theorem ztn:(xmX 2 10 0).run cX 18 zc=0:=by decide +kernel
theorem xr3_1_2:(xmX 3 1 2).run cX 18 zc=0:=by decide +kernel
theorem xr3_8_1:(xmX 3 8 1).run cX 18 zc=0:=by decide +kernel
theorem xr4_0_0:(xmX 4 0 0).run cX 18 zc=0:=by decide +kernel
theorem xr4_6_2:(xmX 4 6 2).run cX 18 zc=0:=by decide +kernel
theorem zsI:(xmX 4 13 1).run cX 18 zc=0:=by decide +kernel
theorem xr5_5_0:(xmX 5 5 0).run cX 18 zc=0:=by decide +kernel
theorem zsy:(xmX 5 11 2).run cX 18 zc=0:=by decide +kernel
theorem xr6_3_1:(xmX 6 3 1).run cX 18 zc=0:=by decide +kernel
theorem zso:(xmX 6 10 0).run cX 18 zc=0:=by decide +kernel
theorem rd1_6:zu 1 6=0:=by decide +kernel
theorem rd2_7:zu 2 7=0:=by decide +kernel
theorem rd3_8:zu 3 8=0:=by decide +kernel
theorem rd4_9:zu 4 9=0:=by decide +kernel
theorem rd5_10:zu 5 10=0:=by decide +kernel
theorem rd6_11:zu 6 11=0:=by decide +kernel
end Go.Ev.X
end
