import Derived.Test.YtckgidiokbofiaaGreatDoorTS
set_option linter.unusedSimpArgs false
set_option linter.unusedVariables false
set_option maxRecDepth 100000
noncomputable section
namespace Go.Ev.X
open Go Go.Ev Go.Proofs
theorem rc1_15:zv 1 15=0:=by decide +kernel
theorem rc4_15:zv 4 15=0:=by decide +kernel
theorem rc6_13:zv 6 13=0:=by decide +kernel
theorem rc3_11:zv 3 11=0:=by decide +kernel
theorem rc1_10:zv 1 10=0:=by decide +kernel
theorem rc3_9:zv 3 9=0:=by decide +kernel
theorem rc3_7:zv 3 7=0:=by decide +kernel
theorem rc3_6:zv 3 6=0:=by decide +kernel
theorem ra0_14:zx 0 14=0:=by decide +kernel
theorem ra2_2:zx 2 2=0:=by decide +kernel
theorem ra3_6:zx 3 6=0:=by decide +kernel
theorem ra4_10:zx 4 10=0:=by decide +kernel
theorem ra5_14:zx 5 14=0:=by decide +kernel
theorem rc0_5:zv 0 5=0:=by decide +kernel
theorem rc0_4:zv 0 4=0:=by decide +kernel
theorem rc6_3:zv 6 3=0:=by decide +kernel
theorem xr0_1_0:(xmX 0 1 0).run cX 18 zc=0:=by decide +kernel
theorem xr0_2_1:(xmX 0 2 1).run cX 18 zc=0:=by decide +kernel
theorem xr0_3_2:(xmX 0 3 2).run cX 18 zc=0:=by decide +kernel
theorem xr0_5_0:(xmX 0 5 0).run cX 18 zc=0:=by decide +kernel
theorem ztM:(xmX 0 11 2).run cX 18 zc=0:=by decide +kernel
theorem xr1_3_1:(xmX 1 3 1).run cX 18 zc=0:=by decide +kernel
theorem ztC:(xmX 1 10 0).run cX 18 zc=0:=by decide +kernel
theorem xr2_1_2:(xmX 2 1 2).run cX 18 zc=0:=by decide +kernel
theorem xr2_8_1:(xmX 2 8 1).run cX 18 zc=0:=by decide +kernel
theorem xr3_0_0:(xmX 3 0 0).run cX 18 zc=0:=by decide +kernel
theorem xr3_6_2:(xmX 3 6 2).run cX 18 zc=0:=by decide +kernel
theorem zsY:(xmX 3 13 1).run cX 18 zc=0:=by decide +kernel
theorem xr4_5_0:(xmX 4 5 0).run cX 18 zc=0:=by decide +kernel
theorem zsN:(xmX 4 11 2).run cX 18 zc=0:=by decide +kernel
theorem xr5_3_1:(xmX 5 3 1).run cX 18 zc=0:=by decide +kernel
theorem zsD:(xmX 5 10 0).run cX 18 zc=0:=by decide +kernel
theorem xr6_1_2:(xmX 6 1 2).run cX 18 zc=0:=by decide +kernel
theorem xr6_8_1:(xmX 6 8 1).run cX 18 zc=0:=by decide +kernel
theorem rd0_1:zu 0 1=0:=by decide +kernel
theorem rd0_2:zu 0 2=0:=by decide +kernel
theorem rd0_3:zu 0 3=0:=by decide +kernel
theorem rd0_4:zu 0 4=0:=by decide +kernel
theorem rd0_5:zu 0 5=0:=by decide +kernel
theorem rd0_6:zu 0 6=0:=by decide +kernel
theorem rd0_7:zu 0 7=0:=by decide +kernel
theorem rd0_8:zu 0 8=0:=by decide +kernel
theorem rd0_9:zu 0 9=0:=by decide +kernel
theorem rd0_10:zu 0 10=0:=by decide +kernel
theorem rd0_11:zu 0 11=0:=by decide +kernel
theorem rd0_12:zu 0 12=0:=by decide +kernel
theorem rd0_13:zu 0 13=0:=by decide +kernel
theorem rd0_14:zu 0 14=0:=by decide +kernel
theorem rd0_15:zu 0 15=0:=by decide +kernel
theorem rd0_16:zu 0 16=0:=by decide +kernel
theorem rd1_1:zu 1 1=0:=by decide +kernel
theorem rd2_2:zu 2 2=0:=by decide +kernel
theorem rd3_3:zu 3 3=0:=by decide +kernel
theorem rd4_4:zu 4 4=0:=by decide +kernel
theorem rd5_5:zu 5 5=0:=by decide +kernel
theorem rd6_6:zu 6 6=0:=by decide +kernel
end Go.Ev.X
end
