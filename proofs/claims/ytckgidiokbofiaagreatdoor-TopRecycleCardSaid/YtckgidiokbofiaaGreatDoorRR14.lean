import Derived.Test.YtckgidiokbofiaaGreatDoorTS
set_option linter.unusedSimpArgs false
set_option linter.unusedVariables false
set_option maxRecDepth 100000
noncomputable section
namespace Go.Ev.X
open Go Go.Ev Go.Proofs
theorem rb0_15:zw 0 15=0:=by decide +kernel
theorem rb3_15:zw 3 15=0:=by decide +kernel
theorem rb5_13:zw 5 13=0:=by decide +kernel
theorem rb2_11:zw 2 11=0:=by decide +kernel
theorem rb0_10:zw 0 10=0:=by decide +kernel
theorem rb2_9:zw 2 9=0:=by decide +kernel
theorem rb2_7:zw 2 7=0:=by decide +kernel
theorem rb2_6:zw 2 6=0:=by decide +kernel
theorem ra0_11:zx 0 11=0:=by decide +kernel
theorem ra1_15:zx 1 15=0:=by decide +kernel
theorem ra3_3:zx 3 3=0:=by decide +kernel
theorem ra4_7:zx 4 7=0:=by decide +kernel
theorem ra5_11:zx 5 11=0:=by decide +kernel
theorem ra6_15:zx 6 15=0:=by decide +kernel
theorem rb0_3:zw 0 3=0:=by decide +kernel
theorem rb3_3:zw 3 3=0:=by decide +kernel
theorem rb5_1:zw 5 1=0:=by decide +kernel
theorem xr0_8_2:(xmX 0 8 2).run cX 18 zc=0:=by decide +kernel
theorem xr1_0_1:(xmX 1 0 1).run cX 18 zc=0:=by decide +kernel
theorem xr1_7_0:(xmX 1 7 0).run cX 18 zc=0:=by decide +kernel
theorem ztr:(xmX 1 13 2).run cX 18 zc=0:=by decide +kernel
theorem xr2_5_1:(xmX 2 5 1).run cX 18 zc=0:=by decide +kernel
theorem zth:(xmX 2 12 0).run cX 18 zc=0:=by decide +kernel
theorem xr3_3_2:(xmX 3 3 2).run cX 18 zc=0:=by decide +kernel
theorem zs7:(xmX 3 10 1).run cX 18 zc=0:=by decide +kernel
theorem xr4_2_0:(xmX 4 2 0).run cX 18 zc=0:=by decide +kernel
theorem xr4_8_2:(xmX 4 8 2).run cX 18 zc=0:=by decide +kernel
theorem xr5_0_1:(xmX 5 0 1).run cX 18 zc=0:=by decide +kernel
theorem xr5_7_0:(xmX 5 7 0).run cX 18 zc=0:=by decide +kernel
theorem zss:(xmX 5 13 2).run cX 18 zc=0:=by decide +kernel
theorem xr6_5_1:(xmX 6 5 1).run cX 18 zc=0:=by decide +kernel
theorem zsi:(xmX 6 12 0).run cX 18 zc=0:=by decide +kernel
theorem rd1_12:zu 1 12=0:=by decide +kernel
theorem rd2_13:zu 2 13=0:=by decide +kernel
theorem rd3_14:zu 3 14=0:=by decide +kernel
theorem rd4_15:zu 4 15=0:=by decide +kernel
theorem rd5_16:zu 5 16=0:=by decide +kernel
end Go.Ev.X
end
