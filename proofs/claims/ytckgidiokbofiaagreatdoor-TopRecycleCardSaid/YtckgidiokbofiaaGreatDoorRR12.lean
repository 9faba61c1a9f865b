import Derived.Test.YtckgidiokbofiaaGreatDoorTS
set_option linter.unusedSimpArgs false
set_option linter.unusedVariables false
set_option maxRecDepth 100000
noncomputable section
namespace Go.Ev.X
open Go Go.Ev Go.Proofs
theorem rb6_16:zw 6 16=0:=by decide +kernel
theorem rb5_14:zw 5 14=0:=by decide +kernel
theorem rb4_13:zw 4 13=0:=by decide +kernel
theorem rb1_11:zw 1 11=0:=by decide +kernel
theorem rb6_11:zw 6 11=0:=by decide +kernel
theorem rb3_8:zw 3 8=0:=by decide +kernel
theorem rb1_7:zw 1 7=0:=by decide +kernel
theorem rb1_6:zw 1 6=0:=by decide +kernel
theorem ra0_9:zx 0 9=0:=by decide +kernel
theorem ra1_13:zx 1 13=0:=by decide +kernel
theorem ra3_1:zx 3 1=0:=by decide +kernel
theorem ra4_5:zx 4 5=0:=by decide +kernel
theorem ra5_9:zx 5 9=0:=by decide +kernel
theorem ra6_13:zx 6 13=0:=by decide +kernel
theorem rb6_4:zw 6 4=0:=by decide +kernel
theorem rb5_2:zw 5 2=0:=by decide +kernel
theorem rb4_1:zw 4 1=0:=by decide +kernel
theorem xr0_8_0:(xmX 0 8 0).run cX 18 zc=0:=by decide +kernel
theorem ztD:(xmX 0 15 0).run cX 18 zc=0:=by decide +kernel
theorem xr1_6_1:(xmX 1 6 1).run cX 18 zc=0:=by decide +kernel
theorem ztt:(xmX 1 13 0).run cX 18 zc=0:=by decide +kernel
theorem xr2_4_2:(xmX 2 4 2).run cX 18 zc=0:=by decide +kernel
theorem ztj:(xmX 2 11 1).run cX 18 zc=0:=by decide +kernel
theorem xr3_3_0:(xmX 3 3 0).run cX 18 zc=0:=by decide +kernel
theorem xr3_9_2:(xmX 3 9 2).run cX 18 zc=0:=by decide +kernel
theorem xr4_1_1:(xmX 4 1 1).run cX 18 zc=0:=by decide +kernel
theorem xr4_8_0:(xmX 4 8 0).run cX 18 zc=0:=by decide +kernel
theorem zsE:(xmX 4 15 0).run cX 18 zc=0:=by decide +kernel
theorem xr5_6_1:(xmX 5 6 1).run cX 18 zc=0:=by decide +kernel
theorem zsu:(xmX 5 13 0).run cX 18 zc=0:=by decide +kernel
theorem xr6_4_2:(xmX 6 4 2).run cX 18 zc=0:=by decide +kernel
theorem zsk:(xmX 6 11 1).run cX 18 zc=0:=by decide +kernel
theorem rd1_10:zu 1 10=0:=by decide +kernel
theorem rd2_11:zu 2 11=0:=by decide +kernel
theorem rd3_12:zu 3 12=0:=by decide +kernel
theorem rd4_13:zu 4 13=0:=by decide +kernel
theorem rd5_14:zu 5 14=0:=by decide +kernel
theorem rd6_15:zu 6 15=0:=by decide +kernel
end Go.Ev.X
end
