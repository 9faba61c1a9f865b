import Derived.Test.YtckgidiokbofiaaGreatDoorTS
set_option linter.unusedSimpArgs false
set_option linter.unusedVariables false
set_option maxRecDepth 100000
noncomputable section
namespace Go.Ev.X
open Go Go.Ev Go.Proofs
theorem rb1_16:zw 1 16=0:=by decide +kernel
theorem rb0_14:zw 0 14=0:=by decide +kernel
theorem rb6_14:zw 6 14=0:=by decide +kernel
theorem rb4_11:zw 4 11=0:=by decide +kernel
theorem rb4_10:zw 4 10=0:=by decide +kernel
theorem rb6_9:zw 6 9=0:=by decide +kernel
theorem rb6_7:zw 6 7=0:=by decide +kernel
theorem rb6_6:zw 6 6=0:=by decide +kernel
theorem ra1_9:zx 1 9=0:=by decide +kernel
theorem ra2_13:zx 2 13=0:=by decide +kernel
theorem ra4_1:zx 4 1=0:=by decide +kernel
theorem ra5_5:zx 5 5=0:=by decide +kernel
theorem ra6_9:zx 6 9=0:=by decide +kernel
theorem rb6_5:zw 6 5=0:=by decide +kernel
theorem rb2_3:zw 2 3=0:=by decide +kernel
theorem rb5_3:zw 5 3=0:=by decide +kernel
theorem xr0_0_0:(xmX 0 0 0).run cX 18 zc=0:=by decide +kernel
theorem xr0_1_1:(xmX 0 1 1).run cX 18 zc=0:=by decide +kernel
theorem xr0_2_2:(xmX 0 2 2).run cX 18 zc=0:=by decide +kernel
theorem xr0_4_0:(xmX 0 4 0).run cX 18 zc=0:=by decide +kernel
theorem ztP:(xmX 0 10 2).run cX 18 zc=0:=by decide +kernel
theorem xr1_2_1:(xmX 1 2 1).run cX 18 zc=0:=by decide +kernel
theorem xr1_9_0:(xmX 1 9 0).run cX 18 zc=0:=by decide +kernel
theorem xr2_0_2:(xmX 2 0 2).run cX 18 zc=0:=by decide +kernel
theorem xr2_7_1:(xmX 2 7 1).run cX 18 zc=0:=by decide +kernel
theorem ztb:(xmX 2 14 0).run cX 18 zc=0:=by decide +kernel
theorem xr3_5_2:(xmX 3 5 2).run cX 18 zc=0:=by decide +kernel
theorem zs1:(xmX 3 12 1).run cX 18 zc=0:=by decide +kernel
theorem xr4_4_0:(xmX 4 4 0).run cX 18 zc=0:=by decide +kernel
theorem zsQ:(xmX 4 10 2).run cX 18 zc=0:=by decide +kernel
theorem xr5_2_1:(xmX 5 2 1).run cX 18 zc=0:=by decide +kernel
theorem xr5_9_0:(xmX 5 9 0).run cX 18 zc=0:=by decide +kernel
theorem xr6_0_2:(xmX 6 0 2).run cX 18 zc=0:=by decide +kernel
theorem xr6_7_1:(xmX 6 7 1).run cX 18 zc=0:=by decide +kernel
theorem zsc:(xmX 6 14 0).run cX 18 zc=0:=by decide +kernel
end Go.Ev.X
end
