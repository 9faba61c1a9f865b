import Derived.Test.YtckgidiokbofiaaGreatDoorTS
set_option linter.unusedSimpArgs false
set_option linter.unusedVariables false
set_option maxRecDepth 100000
noncomputable section
namespace Go.Ev.X
open Go Go.Ev Go.Proofs
theorem rb2_15:zw 2 15=0:=by decide +kernel
theorem rb5_15:zw 5 15=0:=by decide +kernel
theorem rb0_12:zw 0 12=0:=by decide +kernel
theorem rb2_12:zw 2 12=0:=by decide +kernel
theorem rb2_10:zw 2 10=0:=by decide +kernel
theorem rb4_9:zw 4 9=0:=by decide +kernel
theorem rb4_7:zw 4 7=0:=by decide +kernel
theorem rb4_6:zw 4 6=0:=by decide +kernel
theorem ra0_15:zx 0 15=0:=by decide +kernel
theorem ra2_3:zx 2 3=0:=by decide +kernel
theorem ra3_7:zx 3 7=0:=by decide +kernel
theorem ra4_11:zx 4 11=0:=by decide +kernel
theorem ra5_15:zx 5 15=0:=by decide +kernel
theorem rb1_5:zw 1 5=0:=by decide +kernel
theorem rb1_4:zw 1 4=0:=by decide +kernel
theorem rb0_2:zw 0 2=0:=by decide +kernel
theorem rb6_2:zw 6 2=0:=by decide +kernel
theorem xr0_9_1:(xmX 0 9 1).run cX 18 zc=0:=by decide +kernel
theorem xr1_1_0:(xmX 1 1 0).run cX 18 zc=0:=by decide +kernel
theorem xr1_7_2:(xmX 1 7 2).run cX 18 zc=0:=by decide +kernel
theorem ztp:(xmX 1 14 1).run cX 18 zc=0:=by decide +kernel
theorem xr2_6_0:(xmX 2 6 0).run cX 18 zc=0:=by decide +kernel
theorem ztf:(xmX 2 12 2).run cX 18 zc=0:=by decide +kernel
theorem xr3_4_1:(xmX 3 4 1).run cX 18 zc=0:=by decide +kernel
theorem zs5:(xmX 3 11 0).run cX 18 zc=0:=by decide +kernel
theorem xr4_2_2:(xmX 4 2 2).run cX 18 zc=0:=by decide +kernel
theorem xr4_9_1:(xmX 4 9 1).run cX 18 zc=0:=by decide +kernel
theorem xr5_1_0:(xmX 5 1 0).run cX 18 zc=0:=by decide +kernel
theorem xr5_7_2:(xmX 5 7 2).run cX 18 zc=0:=by decide +kernel
theorem zsq:(xmX 5 14 1).run cX 18 zc=0:=by decide +kernel
theorem xr6_6_0:(xmX 6 6 0).run cX 18 zc=0:=by decide +kernel
theorem zsg:(xmX 6 12 2).run cX 18 zc=0:=by decide +kernel
theorem rd1_14:zu 1 14=0:=by decide +kernel
theorem rd2_15:zu 2 15=0:=by decide +kernel
theorem rd3_16:zu 3 16=0:=by decide +kernel
theorem rd5_1:zu 5 1=0:=by decide +kernel
theorem rd6_2:zu 6 2=0:=by decide +kernel
end Go.Ev.X
end
