import Derived.Test.YtckgidiokbofiaaGreatDoorTS
set_option linter.unusedSimpArgs false
set_option linter.unusedVariables false
set_option maxRecDepth 100000
noncomputable section
namespace Go.Ev.X
open Go Go.Ev Go.Proofs
theorem rb1_15:zw 1 15=0:=by decide +kernel
theorem rb4_15:zw 4 15=0:=by decide +kernel
theorem rb6_13:zw 6 13=0:=by decide +kernel
theorem rb3_11:zw 3 11=0:=by decide +kernel
theorem rb1_10:zw 1 10=0:=by decide +kernel
theorem rb3_9:zw 3 9=0:=by decide +kernel
theorem rb3_7:zw 3 7=0:=by decide +kernel
theorem rb3_6:zw 3 6=0:=by decide +kernel
theorem ra0_13:zx 0 13=0:=by decide +kernel
theorem ra2_1:zx 2 1=0:=by decide +kernel
theorem ra3_5:zx 3 5=0:=by decide +kernel
theorem ra4_9:zx 4 9=0:=by decide +kernel
theorem ra5_13:zx 5 13=0:=by decide +kernel
theorem rb0_5:zw 0 5=0:=by decide +kernel
theorem rb0_4:zw 0 4=0:=by decide +kernel
theorem rb6_3:zw 6 3=0:=by decide +kernel
theorem xr0_0_2:(xmX 0 0 2).run cX 18 zc=0:=by decide +kernel
theorem xr0_2_0:(xmX 0 2 0).run cX 18 zc=0:=by decide +kernel
theorem xr0_3_1:(xmX 0 3 1).run cX 18 zc=0:=by decide +kernel
theorem xr0_4_2:(xmX 0 4 2).run cX 18 zc=0:=by decide +kernel
theorem ztN:(xmX 0 11 1).run cX 18 zc=0:=by decide +kernel
theorem xr1_3_0:(xmX 1 3 0).run cX 18 zc=0:=by decide +kernel
theorem xr1_9_2:(xmX 1 9 2).run cX 18 zc=0:=by decide +kernel
theorem xr2_1_1:(xmX 2 1 1).run cX 18 zc=0:=by decide +kernel
theorem xr2_8_0:(xmX 2 8 0).run cX 18 zc=0:=by decide +kernel
theorem zs9:(xmX 2 15 0).run cX 18 zc=0:=by decide +kernel
theorem xr3_6_1:(xmX 3 6 1).run cX 18 zc=0:=by decide +kernel
theorem zsZ:(xmX 3 13 0).run cX 18 zc=0:=by decide +kernel
theorem xr4_4_2:(xmX 4 4 2).run cX 18 zc=0:=by decide +kernel
theorem zsO:(xmX 4 11 1).run cX 18 zc=0:=by decide +kernel
theorem xr5_3_0:(xmX 5 3 0).run cX 18 zc=0:=by decide +kernel
theorem xr5_9_2:(xmX 5 9 2).run cX 18 zc=0:=by decide +kernel
theorem xr6_1_1:(xmX 6 1 1).run cX 18 zc=0:=by decide +kernel
theorem xr6_8_0:(xmX 6 8 0).run cX 18 zc=0:=by decide +kernel
theorem zsa:(xmX 6 15 0).run cX 18 zc=0:=by decide +kernel
end Go.Ev.X
end
