import Derived.Test.YtckgidiokbofiaaGreatDoorTS
set_option linter.unusedSimpArgs false
set_option linter.unusedVariables false
set_option maxRecDepth 100000
noncomputable section
namespace Go.Ev.X
open Go Go.Ev Go.Proofs
theorem rb3_16:zw 3 16=0:=by decide +kernel
theorem rb2_14:zw 2 14=0:=by decide +kernel
theorem rb1_13:zw 1 13=0:=by decide +kernel
theorem rb5_12:zw 5 12=0:=by decide +kernel
theorem rb6_10:zw 6 10=0:=by decide +kernel
theorem rb1_8:zw 1 8=0:=by decide +kernel
theorem rb5_8:zw 5 8=0:=by decide +kernel
theorem ra0_3:zx 0 3=0:=by decide +kernel
theorem ra1_3:zx 1 3=0:=by decide +kernel
theorem ra2_7:zx 2 7=0:=by decide +kernel
theorem ra3_11:zx 3 11=0:=by decide +kernel
theorem ra4_15:zx 4 15=0:=by decide +kernel
theorem ra6_3:zx 6 3=0:=by decide +kernel
theorem rb3_5:zw 3 5=0:=by decide +kernel
theorem rb3_4:zw 3 4=0:=by decide +kernel
theorem rb2_2:zw 2 2=0:=by decide +kernel
theorem rb1_1:zw 1 1=0:=by decide +kernel
theorem xr0_6_0:(xmX 0 6 0).run cX 18 zc=0:=by decide +kernel
theorem ztJ:(xmX 0 12 2).run cX 18 zc=0:=by decide +kernel
theorem xr1_4_1:(xmX 1 4 1).run cX 18 zc=0:=by decide +kernel
theorem ztz:(xmX 1 11 0).run cX 18 zc=0:=by decide +kernel
theorem xr2_2_2:(xmX 2 2 2).run cX 18 zc=0:=by decide +kernel
theorem xr2_9_1:(xmX 2 9 1).run cX 18 zc=0:=by decide +kernel
theorem xr3_1_0:(xmX 3 1 0).run cX 18 zc=0:=by decide +kernel
theorem xr3_7_2:(xmX 3 7 2).run cX 18 zc=0:=by decide +kernel
theorem zsV:(xmX 3 14 1).run cX 18 zc=0:=by decide +kernel
theorem xr4_6_0:(xmX 4 6 0).run cX 18 zc=0:=by decide +kernel
theorem zsK:(xmX 4 12 2).run cX 18 zc=0:=by decide +kernel
theorem xr5_4_1:(xmX 5 4 1).run cX 18 zc=0:=by decide +kernel
theorem zsA:(xmX 5 11 0).run cX 18 zc=0:=by decide +kernel
theorem xr6_2_2:(xmX 6 2 2).run cX 18 zc=0:=by decide +kernel
theorem xr6_9_1:(xmX 6 9 1).run cX 18 zc=0:=by decide +kernel
theorem rd1_4:zu 1 4=0:=by decide +kernel
theorem rd2_5:zu 2 5=0:=by decide +kernel
theorem rd3_6:zu 3 6=0:=by decide +kernel
theorem rd4_7:zu 4 7=0:=by decide +kernel
theorem rd5_8:zu 5 8=0:=by decide +kernel
theorem rd6_9:zu 6 9=0:=by decide +kernel
end Go.Ev.X
end
