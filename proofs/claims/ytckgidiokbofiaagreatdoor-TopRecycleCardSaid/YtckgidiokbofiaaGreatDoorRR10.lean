import Derived.Test.YtckgidiokbofiaaGreatDoorTS
set_option linter.unusedSimpArgs false
set_option linter.unusedVariables false
set_option maxRecDepth 100000
noncomputable section
namespace Go.Ev.X
open Go Go.Ev Go.Proofs
theorem rb5_16:zw 5 16=0:=by decide +kernel
theorem rb4_14:zw 4 14=0:=by decide +kernel
theorem rb3_13:zw 3 13=0:=by decide +kernel
theorem rb0_11:zw 0 11=0:=by decide +kernel
theorem rb5_11:zw 5 11=0:=by decide +kernel
theorem rb2_8:zw 2 8=0:=by decide +kernel
theorem rb0_7:zw 0 7=0:=by decide +kernel
theorem rb0_6:zw 0 6=0:=by decide +kernel
theorem ra0_7:zx 0 7=0:=by decide +kernel
theorem ra1_11:zx 1 11=0:=by decide +kernel
theorem ra2_15:zx 2 15=0:=by decide +kernel
theorem ra4_3:zx 4 3=0:=by decide +kernel
theorem ra5_7:zx 5 7=0:=by decide +kernel
theorem ra6_11:zx 6 11=0:=by decide +kernel
theorem rb5_4:zw 5 4=0:=by decide +kernel
theorem rb4_2:zw 4 2=0:=by decide +kernel
theorem rb3_1:zw 3 1=0:=by decide +kernel
theorem xr0_7_1:(xmX 0 7 1).run cX 18 zc=0:=by decide +kernel
theorem ztF:(xmX 0 14 0).run cX 18 zc=0:=by decide +kernel
theorem xr1_5_2:(xmX 1 5 2).run cX 18 zc=0:=by decide +kernel
theorem ztv:(xmX 1 12 1).run cX 18 zc=0:=by decide +kernel
theorem xr2_4_0:(xmX 2 4 0).run cX 18 zc=0:=by decide +kernel
theorem ztl:(xmX 2 10 2).run cX 18 zc=0:=by decide +kernel
theorem xr3_2_1:(xmX 3 2 1).run cX 18 zc=0:=by decide +kernel
theorem xr3_9_0:(xmX 3 9 0).run cX 18 zc=0:=by decide +kernel
theorem xr4_0_2:(xmX 4 0 2).run cX 18 zc=0:=by decide +kernel
theorem xr4_7_1:(xmX 4 7 1).run cX 18 zc=0:=by decide +kernel
theorem zsG:(xmX 4 14 0).run cX 18 zc=0:=by decide +kernel
theorem xr5_5_2:(xmX 5 5 2).run cX 18 zc=0:=by decide +kernel
theorem zsw:(xmX 5 12 1).run cX 18 zc=0:=by decide +kernel
theorem xr6_4_0:(xmX 6 4 0).run cX 18 zc=0:=by decide +kernel
theorem zsm:(xmX 6 10 2).run cX 18 zc=0:=by decide +kernel
theorem rd1_8:zu 1 8=0:=by decide +kernel
theorem rd2_9:zu 2 9=0:=by decide +kernel
theorem rd3_10:zu 3 10=0:=by decide +kernel
theorem rd4_11:zu 4 11=0:=by decide +kernel
theorem rd5_12:zu 5 12=0:=by decide +kernel
theorem rd6_13:zu 6 13=0:=by decide +kernel
end Go.Ev.X
end
