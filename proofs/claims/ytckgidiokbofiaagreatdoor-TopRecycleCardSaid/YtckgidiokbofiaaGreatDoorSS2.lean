import Derived.Test.YtckgidiokbofiaaGreatDoorSD0
set_option linter.unusedSimpArgs false
set_option linter.unusedVariables false
set_option maxRecDepth 100000
noncomputable section
namespace Go.Ev.X
open Go Go.Ev
def zlz:List Sm:=[zg 1204]
theorem zly:zk zy 71 ze zlz=true:=by decide +kernel
def zlx:List Sm:=[zg 1208]
theorem zlw:zk zy 71 ze zlx=true:=by decide +kernel
def zlv:List Sm:=[zg 1212]
theorem zlu:zk zy 71 ze zlv=true:=by decide +kernel
def zlt:List Sm:=[zg 1216]
theorem zls:zk zy 71 ze zlt=true:=by decide +kernel
def zlr:List Sm:=[y3 1220]
theorem zlq:zk zy 71 ze zlr=true:=by decide +kernel
def zlp:List Sm:=[y9 1224]
theorem zlo:zk zy 71 ze zlp=true:=by decide +kernel
def zln:List Sm:=[zg 1228]
theorem zlm:zk zy 71 ze zln=true:=by decide +kernel
def zll:List Sm:=[zg 1232]
theorem zlk:zk zy 71 ze zll=true:=by decide +kernel
def zlj:List Sm:=[zg 1236]
theorem zli:zk zy 71 ze zlj=true:=by decide +kernel
def zlh:List Sm:=[zg 1240]
theorem zlg:zk zy 71 ze zlh=true:=by decide +kernel
def zlf:List Sm:=[zg 1244]
theorem zle:zk zy 71 ze zlf=true:=by decide +kernel
def zld:List Sm:=[zg 1248]
theorem zlc:zk zy 71 ze zld=true:=by decide +kernel
def zlb:List Sm:=[zg 1252]
theorem zla:zk zy 71 ze zlb=true:=by decide +kernel
def zk9:List Sm:=[zg 1256]
theorem zk8:zk zy 71 ze zk9=true:=by decide +kernel
def zk7:List Sm:=[zg 1260]
theorem zk6:zk zy 71 ze zk7=true:=by decide +kernel
def zk5:List Sm:=[zg 1264]
theorem zk4:zk zy 71 ze zk5=true:=by decide +kernel
def zk3:List Sm:=[zg 1268]
theorem zk2:zk zy 71 ze zk3=true:=by decide +kernel
def zk1:List Sm:=[zg 1272]
theorem zk0:zk zy 71 ze zk1=true:=by decide +kernel
def zkZ:List Sm:=[zg 1276]
theorem zkY:zk zy 71 ze zkZ=true:=by decide +kernel
def zkX:List Sm:=[y3 1284]
theorem zkW:zk zy 71 ze zkX=true:=by decide +kernel
def zkV:List Sm:=[zg 1288,
 y3 1288,
 y9 1288,
 jm 1288,
 jl 1288,
 jk 1288,
 jd 1288,
 ji 1288,
 jh 1288]
theorem zkU:zk zy 71 ze zkV=true:=by decide +kernel
def zkT:List Sm:=[zg 1292,
 y3 1292,
 y9 1292,
 jm 1292,
 jl 1292,
 jk 1292,
 jd 1292,
 ji 1292,
 jh 1292]
theorem zkS:zk zy 71 ze zkT=true:=by decide +kernel
def zkR:List Sm:=[zg 1296,
 y3 1296,
 y9 1296,
 jm 1296,
 jl 1296,
 jk 1296,
 jd 1296,
 ji 1296,
 jh 1296]
theorem zkQ:zk zy 71 ze zkR=true:=by decide +kernel
def zkP:List Sm:=[zg 1300,
 y3 1300,
 y9 1300,
 jm 1300,
 jl 1300,
 jk 1300,
 jd 1300,
 ji 1300,
 jh 1300]
theorem zkO:zk zy 71 ze zkP=true:=by decide +kernel
def zkN:List Sm:=[zg 1304,
 y3 1304,
 y9 1304,
 jm 1304,
 jl 1304,
 jk 1304,
 jd 1304,
 ji 1304,
 jh 1304]
theorem zkM:zk zy 71 ze zkN=true:=by decide +kernel
def zkL:List Sm:=[zg 1308,
 y3 1308,
 y9 1308,
 jm 1308,
 jl 1308,
 jk 1308,
 jd 1308,
 ji 1308,
 jh 1308]
theorem zkK:zk zy 71 ze zkL=true:=by decide +kernel
def zkJ:List Sm:=[zg 1312,
 y3 1312,
 y9 1312,
 jm 1312,
 jl 1312,
 jk 1312,
 jd 1312,
 ji 1312,
 jh 1312]
theorem zkI:zk zy 71 ze zkJ=true:=by decide +kernel
def zkH:List Sm:=[zg 1316,
 y3 1316,
 y9 1316,
 jm 1316,
 jl 1316,
 jk 1316,
 jd 1316,
 ji 1316,
 jh 1316]
theorem zkG:zk zy 71 ze zkH=true:=by decide +kernel
def zkF:List Sm:=[zg 1320,
 y3 1320,
 y9 1320,
 jm 1320,
 jl 1320,
 jk 1320,
 jd 1320,
 ji 1320,
 jh 1320]
theorem zkE:zk zy 71 ze zkF=true:=by decide +kernel
def zkD:List Sm:=[zg 1324,
 y3 1324,
 y9 1324,
 jm 1324,
 jl 1324,
 jk 1324,
 jd 1324,
 ji 1324,
 jh 1324]
theorem zkC:zk zy 71 ze zkD=true:=by decide +kernel
def zkB:List Sm:=[zg 1328,
 y3 1328,
 y9 1328,
 jm 1328,
 jl 1328,
 jk 1328,
 jd 1328,
 ji 1328,
 jh 1328]
theorem zkA:zk zy 71 ze zkB=true:=by decide +kernel
def zkz:List Sm:=[zg 1332,
 y3 1332,
 y9 1332,
 jm 1332,
 jl 1332,
 jk 1332,
 jd 1332,
 ji 1332,
 jh 1332]
theorem zky:zk zy 71 ze zkz=true:=by decide +kernel
def zkx:List Sm:=[zg 1336,
 y3 1336,
 y9 1336,
 jm 1336,
 jl 1336,
 jk 1336,
 jd 1336,
 ji 1336,
 jh 1336]
theorem zkw:zk zy 71 ze zkx=true:=by decide +kernel
def zkv:List Sm:=[zg 1340,
 y3 1340,
 y9 1340,
 jm 1340,
 jl 1340,
 jk 1340,
 jd 1340,
 ji 1340,
 jh 1340]
theorem zku:zk zy 71 ze zkv=true:=by decide +kernel
def zkt:List Sm:=[zg 1344,
 y3 1344,
 y9 1344,
 jm 1344,
 jl 1344,
 jk 1344,
 jd 1344,
 ji 1344,
 jh 1344]
theorem zks:zk zy 71 ze zkt=true:=by decide +kernel
def zkr:List Sm:=[zg 1348,
 y3 1348,
 y9 1348,
 jm 1348,
 jl 1348,
 jk 1348,
 jd 1348,
 ji 1348,
 jh 1348]
theorem zkq:zk zy 71 ze zkr=true:=by decide +kernel
def zkp:List Sm:=[zg 1536]
theorem zko:zk zy 71 ze zkp=true:=by decide +kernel
def zkn:List Sm:=[zg 1540]
theorem zkm:zk zy 71 ze zkn=true:=by decide +kernel
def zkl:List Sm:=[zg 1544]
theorem zkk:zk zy 71 ze zkl=true:=by decide +kernel
def zkj:List Sm:=[zg 1548]
theorem zki:zk zy 71 ze zkj=true:=by decide +kernel
def zkh:List Sm:=[zg 1552]
theorem zkg:zk zy 71 ze zkh=true:=by decide +kernel
def zkf:List Sm:=[zg 1556]
theorem zke:zk zy 71 ze zkf=true:=by decide +kernel
def zkd:List Sm:=[zg 1560]
theorem zkc:zk zy 71 ze zkd=true:=by decide +kernel
def zkb:List Sm:=[zg 1564]
theorem zka:zk zy 71 ze zkb=true:=by decide +kernel
def zj9:List Sm:=[zg 1568]
theorem zj8:zk zy 71 ze zj9=true:=by decide +kernel
def zj7:List Sm:=[zg 1572]
theorem zj6:zk zy 71 ze zj7=true:=by decide +kernel
def zj5:List Sm:=[zg 1576]
theorem zj4:zk zy 71 ze zj5=true:=by decide +kernel
def zj3:List Sm:=[zg 1580]
theorem zj2:zk zy 71 ze zj3=true:=by decide +kernel
def zj1:List Sm:=[zg 1584]
theorem zj0:zk zy 71 ze zj1=true:=by decide +kernel
def zjZ:List Sm:=[zg 1588]
theorem zjY:zk zy 71 ze zjZ=true:=by decide +kernel
def zjX:List Sm:=[zg 1592]
theorem zjW:zk zy 71 ze zjX=true:=by decide +kernel
def zjV:List Sm:=[zg 1596]
theorem zjU:zk zy 71 ze zjV=true:=by decide +kernel
def zjT:List Sm:=[zg 1600]
theorem zjS:zk zy 71 ze zjT=true:=by decide +kernel
def zjR:List Sm:=[zg 1604]
theorem zjQ:zk zy 71 ze zjR=true:=by decide +kernel
def zjP:List Sm:=[zg 1608]
theorem zjO:zk zy 71 ze zjP=true:=by decide +kernel
def zjN:List Sm:=[zg 1612]
theorem zjM:zk zy 71 ze zjN=true:=by decide +kernel
def zjL:List Sm:=[zg 1616]
theorem zjK:zk zy 71 ze zjL=true:=by decide +kernel
def zjJ:List Sm:=[zg 1620]
theorem zjI:zk zy 71 ze zjJ=true:=by decide +kernel
def zjH:List Sm:=[zg 1624]
theorem zjG:zk zy 71 ze zjH=true:=by decide +kernel
def zjF:List Sm:=[zg 1628]
theorem zjE:zk zy 71 ze zjF=true:=by decide +kernel
def zjD:List Sm:=[zg 1632]
theorem zjC:zk zy 71 ze zjD=true:=by decide +kernel
def zjB:List Sm:=[zg 1636]
theorem zjA:zk zy 71 ze zjB=true:=by decide +kernel
def zjz:List Sm:=[zg 1640]
theorem zjy:zk zy 71 ze zjz=true:=by decide +kernel
def zjx:List Sm:=[zg 1644]
theorem zjw:zk zy 71 ze zjx=true:=by decide +kernel
def zjv:List Sm:=[zg 1648]
theorem zju:zk zy 71 ze zjv=true:=by decide +kernel
def zjt:List Sm:=[zg 1652]
theorem zjs:zk zy 71 ze zjt=true:=by decide +kernel
def zjr:List Sm:=[zg 1656]
theorem zjq:zk zy 71 ze zjr=true:=by decide +kernel
def zjp:List Sm:=[zg 1660]
theorem zjo:zk zy 71 ze zjp=true:=by decide +kernel
def s101_1:List Sm:=[⟨[(.one (.i .i64 1)),(.one (.w .u64 10))],[],[],(.one (.one (.i .i64 0))),[(1,(.s .u64 (.v 10)))],1⟩]
theorem zrp:zk zeI 101 ze s101_1=true:=by decide +kernel
def s101_2:List Sm:=[⟨[(.one (.i .i64 2)),(.one (.w .u64 10))],[],[],(.one (.one (.i .i64 0))),[(2,(.s .u64 (.v 10)))],1⟩]
theorem zro:zk zeI 101 ze s101_2=true:=by decide +kernel
def s101_4:List Sm:=[⟨[(.one (.i .i64 4)),(.one (.w .u64 10))],[],[],(.one (.one (.i .i64 0))),[(4,(.s .u64 (.v 10)))],1⟩]
theorem zrn:zk zeI 101 ze s101_4=true:=by decide +kernel
def s101_8:List Sm:=[⟨[(.one (.i .i64 8)),(.one (.w .u64 10))],[],[],(.one (.one (.i .i64 0))),[(8,(.s .u64 (.v 10)))],1⟩]
theorem zrm:zk zeI 101 ze s101_8=true:=by decide +kernel
def zp1:List Sm:=[⟨[(.one (.i .i64 17)),(.one (.w .u64 10))],[],[],(.one (.one (.i .i64 0))),[(17,(.s .u64 (.v 10)))],1⟩]
theorem zoW:zk zeI 101 ze zp1=true:=by decide +kernel
def znn:List Sm:=[⟨[(.one (.i .i64 265)),(.one (.w .u64 10))],[],[],(.one (.one (.i .i64 0))),[(265,(.s .u64 (.v 10)))],1⟩]
theorem znm:zk zeI 101 ze znn=true:=by decide +kernel
def zha:List Sm:=[yW 1288]
theorem ziq:zk zaD 242 ze zha=true:=by decide +kernel
def zg9:List Sm:=[yW 1536]
theorem zio:zk zaD 242 ze zg9=true:=by decide +kernel
def zg8:List Sm:=[yW 1544]
theorem zin:zk zaD 242 ze zg8=true:=by decide +kernel
def zg7:List Sm:=[yW 1552]
theorem zim:zk zaD 242 ze zg7=true:=by decide +kernel
def zg6:List Sm:=[yW 1560]
theorem zil:zk zaD 242 ze zg6=true:=by decide +kernel
def zg5:List Sm:=[yW 1568]
theorem zik:zk zaD 242 ze zg5=true:=by decide +kernel
def zg4:List Sm:=[yW 1576]
theorem zij:zk zaD 242 ze zg4=true:=by decide +kernel
def zg3:List Sm:=[yW 1584]
theorem zii:zk zaD 242 ze zg3=true:=by decide +kernel
def zg2:List Sm:=[yW 1592]
theorem zih:zk zaD 242 ze zg2=true:=by decide +kernel
def zg1:List Sm:=[yW 1600]
theorem zig:zk zaD 242 ze zg1=true:=by decide +kernel
def zg0:List Sm:=[yW 1608]
theorem zif:zk zaD 242 ze zg0=true:=by decide +kernel
def zgZ:List Sm:=[yW 1616]
theorem zie:zk zaD 242 ze zgZ=true:=by decide +kernel
def zgY:List Sm:=[yW 1624]
theorem zid:zk zaD 242 ze zgY=true:=by decide +kernel
def zgX:List Sm:=[yW 1632]
theorem zic:zk zaD 242 ze zgX=true:=by decide +kernel
def zgW:List Sm:=[yW 1640]
theorem zib:zk zaD 242 ze zgW=true:=by decide +kernel
def zgV:List Sm:=[yW 1648]
theorem zia:zk zaD 242 ze zgV=true:=by decide +kernel
end Go.Ev.X
end
