import Derived.Test.YtckgidiokbofiaaGreatDoorTS
set_option linter.unusedSimpArgs false
set_option linter.unusedVariables false
set_option maxRecDepth 100000
noncomputable section
namespace Go.Ev.X
open Go Go.Ev Go.Proofs
theorem rb2_16:zw 2 16=0:=by decide +kernel
theorem rb1_14:zw 1 14=0:=by decide +kernel
theorem rb0_13:zw 0 13=0:=by decide +kernel
theorem rb4_12:zw 4 12=0:=by decide +kernel
theorem rb5_10:zw 5 10=0:=by decide +kernel
theorem rb0_8:zw 0 8=0:=by decide +kernel
theorem rb4_8:zw 4 8=0:=by decide +kernel
theorem ra0_1:zx 0 1=0:=by decide +kernel
theorem ra1_1:zx 1 1=0:=by decide +kernel
theorem ra2_5:zx 2 5=0:=by decide +kernel
theorem ra3_9:zx 3 9=0:=by decide +kernel
theorem ra4_13:zx 4 13=0:=by decide +kernel
theorem ra6_1:zx 6 1=0:=by decide +kernel
theorem rb2_5:zw 2 5=0:=by decide +kernel
theorem rb2_4:zw 2 4=0:=by decide +kernel
theorem rb1_2:zw 1 2=0:=by decide +kernel
theorem rb0_1:zw 0 1=0:=by decide +kernel
theorem xr0_5_1:(xmX 0 5 1).run cX 18 zc=0:=by decide +kernel
theorem ztL:(xmX 0 12 0).run cX 18 zc=0:=by decide +kernel
theorem xr1_3_2:(xmX 1 3 2).run cX 18 zc=0:=by decide +kernel
theorem ztB:(xmX 1 10 1).run cX 18 zc=0:=by decide +kernel
theorem xr2_2_0:(xmX 2 2 0).run cX 18 zc=0:=by decide +kernel
theorem xr2_8_2:(xmX 2 8 2).run cX 18 zc=0:=by decide +kernel
theorem xr3_0_1:(xmX 3 0 1).run cX 18 zc=0:=by decide +kernel
theorem xr3_7_0:(xmX 3 7 0).run cX 18 zc=0:=by decide +kernel
theorem zsX:(xmX 3 13 2).run cX 18 zc=0:=by decide +kernel
theorem xr4_5_1:(xmX 4 5 1).run cX 18 zc=0:=by decide +kernel
theorem zsM:(xmX 4 12 0).run cX 18 zc=0:=by decide +kernel
theorem xr5_3_2:(xmX 5 3 2).run cX 18 zc=0:=by decide +kernel
theorem zsC:(xmX 5 10 1).run cX 18 zc=0:=by decide +kernel
theorem xr6_2_0:(xmX 6 2 0).run cX 18 zc=0:=by decide +kernel
theorem xr6_8_2:(xmX 6 8 2).run cX 18 zc=0:=by decide +kernel
theorem rd1_2:zu 1 2=0:=by decide +kernel
theorem rd2_3:zu 2 3=0:=by decide +kernel
theorem rd3_4:zu 3 4=0:=by decide +kernel
theorem rd4_5:zu 4 5=0:=by decide +kernel
theorem rd5_6:zu 5 6=0:=by decide +kernel
theorem rd6_7:zu 6 7=0:=by decide +kernel
end Go.Ev.X
end
