import Derived.Test.YtckgidiokbofiaaGreatDoorTS
set_option linter.unusedSimpArgs false
set_option linter.unusedVariables false
set_option maxRecDepth 100000
noncomputable section
namespace Go.Ev.X
open Go Go.Ev Go.Proofs
theorem rc6_16:zv 6 16=0:=by decide +kernel
theorem rc5_14:zv 5 14=0:=by decide +kernel
theorem rc4_13:zv 4 13=0:=by decide +kernel
theorem rc1_11:zv 1 11=0:=by decide +kernel
theorem rc6_11:zv 6 11=0:=by decide +kernel
theorem rc3_8:zv 3 8=0:=by decide +kernel
theorem rc1_7:zv 1 7=0:=by decide +kernel
theorem rc1_6:zv 1 6=0:=by decide +kernel
theorem ra0_10:zx 0 10=0:=by decide +kernel
theorem ra1_14:zx 1 14=0:=by decide +kernel
theorem ra3_2:zx 3 2=0:=by decide +kernel
theorem ra4_6:zx 4 6=0:=by decide +kernel
theorem ra5_10:zx 5 10=0:=by decide +kernel
theorem ra6_14:zx 6 14=0:=by decide +kernel
theorem rc6_4:zv 6 4=0:=by decide +kernel
theorem rc5_2:zv 5 2=0:=by decide +kernel
theorem rc4_1:zv 4 1=0:=by decide +kernel
theorem xr0_8_1:(xmX 0 8 1).run cX 18 zc=0:=by decide +kernel
theorem xr1_0_0:(xmX 1 0 0).run cX 18 zc=0:=by decide +kernel
theorem xr1_6_2:(xmX 1 6 2).run cX 18 zc=0:=by decide +kernel
theorem zts:(xmX 1 13 1).run cX 18 zc=0:=by decide +kernel
theorem xr2_5_0:(xmX 2 5 0).run cX 18 zc=0:=by decide +kernel
theorem zti:(xmX 2 11 2).run cX 18 zc=0:=by decide +kernel
theorem xr3_3_1:(xmX 3 3 1).run cX 18 zc=0:=by decide +kernel
theorem zs8:(xmX 3 10 0).run cX 18 zc=0:=by decide +kernel
theorem xr4_1_2:(xmX 4 1 2).run cX 18 zc=0:=by decide +kernel
theorem xr4_8_1:(xmX 4 8 1).run cX 18 zc=0:=by decide +kernel
theorem xr5_0_0:(xmX 5 0 0).run cX 18 zc=0:=by decide +kernel
theorem xr5_6_2:(xmX 5 6 2).run cX 18 zc=0:=by decide +kernel
theorem zst:(xmX 5 13 1).run cX 18 zc=0:=by decide +kernel
theorem xr6_5_0:(xmX 6 5 0).run cX 18 zc=0:=by decide +kernel
theorem zsj:(xmX 6 11 2).run cX 18 zc=0:=by decide +kernel
theorem rd1_11:zu 1 11=0:=by decide +kernel
theorem rd2_12:zu 2 12=0:=by decide +kernel
theorem rd3_13:zu 3 13=0:=by decide +kernel
theorem rd4_14:zu 4 14=0:=by decide +kernel
theorem rd5_15:zu 5 15=0:=by decide +kernel
theorem rd6_16:zu 6 16=0:=by decide +kernel
end Go.Ev.X
end
