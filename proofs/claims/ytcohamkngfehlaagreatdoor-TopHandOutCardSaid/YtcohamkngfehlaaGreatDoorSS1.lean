import Derived.Test.YtcohamkngfehlaaGreatDoorSD0
set_option linter.unusedSimpArgs false
set_option linter.unusedVariables false
set_option maxRecDepth 100000
noncomputable section
namespace Go.Ev.X
open Go Go.Ev
def s72_64:List Sm:=[zk 64]
theorem zoe:zl zr 72 zd s72_64=true:=by decide +kernel
def s72_68:List Sm:=[zk 68]
theorem zod:zl zr 72 zd s72_68=true:=by decide +kernel
def s72_72:List Sm:=[zk 72]
theorem zoc:zl zr 72 zd s72_72=true:=by decide +kernel
def s72_76:List Sm:=[zk 76]
theorem zob:zl zr 72 zd s72_76=true:=by decide +kernel
def s72_80:List Sm:=[zk 80]
theorem zoa:zl zr 72 zd s72_80=true:=by decide +kernel
def s72_84:List Sm:=[zk 84]
theorem zn9:zl zr 72 zd s72_84=true:=by decide +kernel
def s72_88:List Sm:=[zk 88]
theorem zn8:zl zr 72 zd s72_88=true:=by decide +kernel
def s72_92:List Sm:=[zk 92]
theorem zn7:zl zr 72 zd s72_92=true:=by decide +kernel
def s72_96:List Sm:=[zk 96]
theorem zn6:zl zr 72 zd s72_96=true:=by decide +kernel
def zna:List Sm:=[zk 100]
theorem zme:zl zr 72 zd zna=true:=by decide +kernel
def zm9:List Sm:=[zk 104]
theorem zmd:zl zr 72 zd zm9=true:=by decide +kernel
def zm8:List Sm:=[zk 108]
theorem zmc:zl zr 72 zd zm8=true:=by decide +kernel
def zm7:List Sm:=[zk 112]
theorem zmb:zl zr 72 zd zm7=true:=by decide +kernel
def zm6:List Sm:=[zk 116]
theorem zma:zl zr 72 zd zm6=true:=by decide +kernel
def zm5:List Sm:=[zk 120]
theorem zl9:zl zr 72 zd zm5=true:=by decide +kernel
def zm4:List Sm:=[zk 124]
theorem zl8:zl zr 72 zd zm4=true:=by decide +kernel
def zjb:List Sm:=[tm72_8 1024,
 ⟨[(.one (.i .i64 1024))],[(1024,100),(1025,101),(1026,102),(1027,103)],[((.cmp .eql (.op .shr .u64 (.op .and .u64 (.v 100) (.lit 32505856)) (.lit 20)) (.lit 3)),true),((.cmp .eql (.op .shr .u64 (.op .and .u64 (.v 100) (.lit 8521215115264)) (.lit 38)) (.lit 29)),true),((.cmp .neq (.op .shr .u64 (.v 100) (.lit 43)) (.lit 0)),false),((.cmp .geq (.v 101) (.lit 4294967296)),false),((.cmp .eql (.cv .i64 (.op .shr .u64 (.op .and .u64 (.v 100) (.lit 15)) (.lit 0))) (.lit 2)),true),((.cmp .eql (.cv .i64 (.op .shr .u64 (.op .and .u64 (.v 100) (.lit 234881024)) (.lit 25))) (.lit 0)),true),((.cmp .eql (.cv .i64 (.op .shr .u64 (.op .and .u64 (.v 100) (.lit 270582939648)) (.lit 32))) (.lit 0)),true),((.cmp .eql (.cv .i64 (.op .shr .u64 (.op .and .u64 (.v 100) (.lit 4026531840)) (.lit 28))) (.lit 0)),true),((.cmp .lss (.cv .i64 (.op .shr .u64 (.op .and .u64 (.v 100) (.lit 1048560)) (.lit 4))) (.lit 1024)),false),((.cmp .gtr (.cv .i64 (.op .shr .u64 (.op .and .u64 (.v 100) (.lit 1048560)) (.lit 4))) (.lit 65535)),false),((.cmp .neq (.op .rem .i64 (.cv .i64 (.op .shr .u64 (.op .and .u64 (.v 100) (.lit 1048560)) (.lit 4))) (.lit 32)) (.lit 0)),false),((.cmp .geq (.cv .i64 (.v 101)) (.lit 0)),true),((.cmp .leq (.cv .i64 (.v 101)) (.lit 536870911)),true),((.cmp .neq (.op .shr .u64 (.v 102) (.lit 48)) (.lit 0)),false),((.cmp .neq (.v 103) (.lit 0)),false),((.cmp .geq (.cv .i64 (.op .shr .u64 (.op .and .u64 (.v 102) (.lit 65535)) (.lit 0))) (.lit 0)),true),((.cmp .lss (.cv .i64 (.op .shr .u64 (.op .and .u64 (.v 102) (.lit 65535)) (.lit 0))) (.lit 65536)),true),((.cmp .eql (.op .rem .i64 (.cv .i64 (.op .shr .u64 (.op .and .u64 (.v 102) (.lit 65535)) (.lit 0))) (.lit 4)) (.lit 0)),true),((.cmp .geq (.cv .i64 (.op .shr .u64 (.op .and .u64 (.v 102) (.lit 4294901760)) (.lit 16))) (.lit 0)),true),((.cmp .lss (.cv .i64 (.op .shr .u64 (.op .and .u64 (.v 102) (.lit 4294901760)) (.lit 16))) (.lit 65536)),true),((.cmp .eql (.op .rem .i64 (.cv .i64 (.op .shr .u64 (.op .and .u64 (.v 102) (.lit 4294901760)) (.lit 16))) (.lit 4)) (.lit 0)),true),((.cmp .geq (.cv .i64 (.op .shr .u64 (.op .and .u64 (.v 102) (.lit 281470681743360)) (.lit 32))) (.lit 0)),true),((.cmp .lss (.cv .i64 (.op .shr .u64 (.op .and .u64 (.v 102) (.lit 281470681743360)) (.lit 32))) (.lit 65536)),true)],(.tup [(.agg [(.i .i64 2),(.s .i64 (.cv .i64 (.op .shr .u64 (.op .and .u64 (.v 100) (.lit 1048560)) (.lit 4)))),(.i .i64 3),(.i .i64 0),(.s .i64 (.cv .i64 (.v 101))),(.i .i64 29),(.i .i64 0),(.i .i64 0),(.i .i64 0),(.i .i64 0),(.i .i64 0),(.s .i64 (.cv .i64 (.op .shr .u64 (.op .and .u64 (.v 102) (.lit 65535)) (.lit 0)))),(.s .i64 (.cv .i64 (.op .shr .u64 (.op .and .u64 (.v 102) (.lit 4294901760)) (.lit 16)))),(.s .i64 (.cv .i64 (.op .shr .u64 (.op .and .u64 (.v 102) (.lit 281470681743360)) (.lit 32))))]),(.one (.i .i64 0))]),[],4⟩]
theorem zja:zl zr 72 zd zjb=true:=by decide +kernel
def zi9:List Sm:=[zk 1028]
theorem zi8:zl zr 72 zd zi9=true:=by decide +kernel
def zi7:List Sm:=[zk 1032]
theorem zi6:zl zr 72 zd zi7=true:=by decide +kernel
def zi5:List Sm:=[tm72_8 1088,
 tm72_9 1088]
theorem zi4:zl zr 72 zd zi5=true:=by decide +kernel
def zi3:List Sm:=[zk 1092]
theorem zi2:zl zr 72 zd zi3=true:=by decide +kernel
def zi1:List Sm:=[zk 1096]
theorem zi0:zl zr 72 zd zi1=true:=by decide +kernel
def ziZ:List Sm:=[zk 1152]
theorem ziY:zl zr 72 zd ziZ=true:=by decide +kernel
def ziX:List Sm:=[zK 1156]
theorem ziW:zl zr 72 zd ziX=true:=by decide +kernel
def ziV:List Sm:=[zm2 1160,
 ⟨[(.one (.i .i64 1160))],[(1160,100),(1161,101),(1162,102),(1163,103)],[((.cmp .eql (.op .shr .u64 (.op .and .u64 (.v 100) (.lit 32505856)) (.lit 20)) (.lit 9)),true),((.cmp .eql (.op .shr .u64 (.op .and .u64 (.v 100) (.lit 8521215115264)) (.lit 38)) (.lit 0)),true),((.cmp .neq (.op .shr .u64 (.v 100) (.lit 43)) (.lit 0)),false),((.cmp .geq (.v 101) (.lit 4294967296)),false),((.cmp .eql (.cv .i64 (.op .shr .u64 (.op .and .u64 (.v 100) (.lit 15)) (.lit 0))) (.lit 2)),false),((.cmp .eql (.cv .i64 (.op .shr .u64 (.op .and .u64 (.v 100) (.lit 15)) (.lit 0))) (.lit 4)),false),((.cmp .eql (.cv .i64 (.op .shr .u64 (.op .and .u64 (.v 100) (.lit 15)) (.lit 0))) (.lit 5)),false),((.cmp .eql (.cv .i64 (.op .shr .u64 (.op .and .u64 (.v 100) (.lit 15)) (.lit 0))) (.lit 6)),false),((.cmp .eql (.cv .i64 (.op .shr .u64 (.op .and .u64 (.v 100) (.lit 15)) (.lit 0))) (.lit 8)),false),((.cmp .eql (.cv .i64 (.op .shr .u64 (.op .and .u64 (.v 100) (.lit 15)) (.lit 0))) (.lit 1)),true),((.cmp .eql (.cv .i64 (.op .shr .u64 (.op .and .u64 (.v 100) (.lit 234881024)) (.lit 25))) (.lit 0)),true),((.cmp .eql (.cv .i64 (.op .shr .u64 (.op .and .u64 (.v 100) (.lit 270582939648)) (.lit 32))) (.lit 0)),true),((.cmp .eql (.cv .i64 (.op .shr .u64 (.op .and .u64 (.v 100) (.lit 4026531840)) (.lit 28))) (.lit 0)),true),((.cmp .lss (.cv .i64 (.op .shr .u64 (.op .and .u64 (.v 100) (.lit 1048560)) (.lit 4))) (.lit 1024)),false),((.cmp .gtr (.cv .i64 (.op .shr .u64 (.op .and .u64 (.v 100) (.lit 1048560)) (.lit 4))) (.lit 65535)),false),((.cmp .neq (.op .rem .i64 (.cv .i64 (.op .shr .u64 (.op .and .u64 (.v 100) (.lit 1048560)) (.lit 4))) (.lit 512)) (.lit 0)),false),((.cmp .geq (.cv .i64 (.v 101)) (.lit 0)),true),((.cmp .leq (.cv .i64 (.v 101)) (.lit 512)),true),((.cmp .neq (.op .shr .u64 (.v 102) (.lit 48)) (.lit 0)),false),((.cmp .neq (.v 103) (.lit 0)),false),((.cmp .geq (.cv .i64 (.op .shr .u64 (.op .and .u64 (.v 102) (.lit 65535)) (.lit 0))) (.lit 0)),true),((.cmp .lss (.cv .i64 (.op .shr .u64 (.op .and .u64 (.v 102) (.lit 65535)) (.lit 0))) (.lit 65536)),true),((.cmp .eql (.op .rem .i64 (.cv .i64 (.op .shr .u64 (.op .and .u64 (.v 102) (.lit 65535)) (.lit 0))) (.lit 4)) (.lit 0)),true),((.cmp .geq (.cv .i64 (.op .shr .u64 (.op .and .u64 (.v 102) (.lit 4294901760)) (.lit 16))) (.lit 0)),true),((.cmp .lss (.cv .i64 (.op .shr .u64 (.op .and .u64 (.v 102) (.lit 4294901760)) (.lit 16))) (.lit 65536)),true),((.cmp .eql (.op .rem .i64 (.cv .i64 (.op .shr .u64 (.op .and .u64 (.v 102) (.lit 4294901760)) (.lit 16))) (.lit 4)) (.lit 0)),true),((.cmp .geq (.cv .i64 (.op .shr .u64 (.op .and .u64 (.v 102) (.lit 281470681743360)) (.lit 32))) (.lit 0)),true),((.cmp .lss (.cv .i64 (.op .shr .u64 (.op .and .u64 (.v 102) (.lit 281470681743360)) (.lit 32))) (.lit 65536)),true)],(.tup [(.agg [(.i .i64 1),(.s .i64 (.cv .i64 (.op .shr .u64 (.op .and .u64 (.v 100) (.lit 1048560)) (.lit 4)))),(.i .i64 9),(.s .i64 (.cv .i64 (.v 101))),(.i .i64 0),(.i .i64 0),(.i .i64 0),(.i .i64 0),(.i .i64 0),(.i .i64 0),(.i .i64 0),(.s .i64 (.cv .i64 (.op .shr .u64 (.op .and .u64 (.v 102) (.lit 65535)) (.lit 0)))),(.s .i64 (.cv .i64 (.op .shr .u64 (.op .and .u64 (.v 102) (.lit 4294901760)) (.lit 16)))),(.s .i64 (.cv .i64 (.op .shr .u64 (.op .and .u64 (.v 102) (.lit 281470681743360)) (.lit 32))))]),(.one (.i .i64 0))]),[],4⟩]
theorem ziU:zl zr 72 zd ziV=true:=by decide +kernel
def ziT:List Sm:=[zk 1164,
 tm72_9 1164]
theorem ziS:zl zr 72 zd ziT=true:=by decide +kernel
def ziR:List Sm:=[zk 1168]
theorem ziQ:zl zr 72 zd ziR=true:=by decide +kernel
def ziP:List Sm:=[zk 1172]
theorem ziO:zl zr 72 zd ziP=true:=by decide +kernel
def ziN:List Sm:=[zk 1176]
theorem ziM:zl zr 72 zd ziN=true:=by decide +kernel
def ziL:List Sm:=[zk 1180]
theorem ziK:zl zr 72 zd ziL=true:=by decide +kernel
def ziJ:List Sm:=[zk 1184]
theorem ziI:zl zr 72 zd ziJ=true:=by decide +kernel
def ziH:List Sm:=[zk 1188]
theorem ziG:zl zr 72 zd ziH=true:=by decide +kernel
def ziF:List Sm:=[zk 1192]
theorem ziE:zl zr 72 zd ziF=true:=by decide +kernel
def ziD:List Sm:=[zk 1196]
theorem ziC:zl zr 72 zd ziD=true:=by decide +kernel
def ziB:List Sm:=[zk 1200]
theorem ziA:zl zr 72 zd ziB=true:=by decide +kernel
def ziz:List Sm:=[zk 1204]
theorem ziy:zl zr 72 zd ziz=true:=by decide +kernel
def zix:List Sm:=[zk 1208]
theorem ziw:zl zr 72 zd zix=true:=by decide +kernel
def ziv:List Sm:=[zk 1212]
theorem ziu:zl zr 72 zd ziv=true:=by decide +kernel
def zit:List Sm:=[zk 1216]
theorem zis:zl zr 72 zd zit=true:=by decide +kernel
def zir:List Sm:=[zK 1220]
theorem ziq:zl zr 72 zd zir=true:=by decide +kernel
def zio:List Sm:=[zm2 1224]
theorem zin:zl zr 72 zd zio=true:=by decide +kernel
def zim:List Sm:=[zk 1228]
theorem zil:zl zr 72 zd zim=true:=by decide +kernel
def zik:List Sm:=[zk 1232]
theorem zij:zl zr 72 zd zik=true:=by decide +kernel
def zii:List Sm:=[zk 1236]
theorem zih:zl zr 72 zd zii=true:=by decide +kernel
def zig:List Sm:=[zk 1240]
theorem zif:zl zr 72 zd zig=true:=by decide +kernel
def zie:List Sm:=[zk 1244]
theorem zid:zl zr 72 zd zie=true:=by decide +kernel
def zic:List Sm:=[zk 1248]
theorem zib:zl zr 72 zd zic=true:=by decide +kernel
def zia:List Sm:=[zk 1252]
theorem zh9:zl zr 72 zd zia=true:=by decide +kernel
def zh8:List Sm:=[zk 1256]
theorem zh7:zl zr 72 zd zh8=true:=by decide +kernel
def zh6:List Sm:=[zk 1260]
theorem zh5:zl zr 72 zd zh6=true:=by decide +kernel
def zh4:List Sm:=[zk 1264]
theorem zh3:zl zr 72 zd zh4=true:=by decide +kernel
def zh2:List Sm:=[zk 1268]
theorem zh1:zl zr 72 zd zh2=true:=by decide +kernel
def zh0:List Sm:=[zk 1272]
theorem zhZ:zl zr 72 zd zh0=true:=by decide +kernel
def zhY:List Sm:=[zk 1276]
theorem zhX:zl zr 72 zd zhY=true:=by decide +kernel
def zhW:List Sm:=[zK 1284]
theorem zhV:zl zr 72 zd zhW=true:=by decide +kernel
def zhU:List Sm:=[zk 1288,
 zK 1288]
theorem zhT:zl zr 72 zd zhU=true:=by decide +kernel
def zhS:List Sm:=[zk 1292,
 zK 1292]
theorem zhR:zl zr 72 zd zhS=true:=by decide +kernel
def zhQ:List Sm:=[zk 1296,
 zK 1296]
theorem zhP:zl zr 72 zd zhQ=true:=by decide +kernel
def zhO:List Sm:=[zk 1300,
 zK 1300]
theorem zhN:zl zr 72 zd zhO=true:=by decide +kernel
def zhM:List Sm:=[zk 1304,
 zK 1304]
theorem zhL:zl zr 72 zd zhM=true:=by decide +kernel
def zhK:List Sm:=[zk 1308,
 zK 1308]
theorem zhJ:zl zr 72 zd zhK=true:=by decide +kernel
def zhI:List Sm:=[zk 1312,
 zK 1312]
theorem zhH:zl zr 72 zd zhI=true:=by decide +kernel
def zhG:List Sm:=[zk 1316,
 zK 1316]
theorem zhF:zl zr 72 zd zhG=true:=by decide +kernel
def zhE:List Sm:=[zk 1320,
 zK 1320]
theorem zhD:zl zr 72 zd zhE=true:=by decide +kernel
def zhC:List Sm:=[zk 1324,
 zK 1324]
theorem zhB:zl zr 72 zd zhC=true:=by decide +kernel
def zhA:List Sm:=[zk 1328,
 zK 1328]
theorem zhz:zl zr 72 zd zhA=true:=by decide +kernel
def zhy:List Sm:=[zk 1332,
 zK 1332]
theorem zhx:zl zr 72 zd zhy=true:=by decide +kernel
def zhw:List Sm:=[zk 1336,
 zK 1336]
theorem zhv:zl zr 72 zd zhw=true:=by decide +kernel
def zhu:List Sm:=[zk 1340,
 zK 1340]
theorem zht:zl zr 72 zd zhu=true:=by decide +kernel
def zhs:List Sm:=[zk 1344,
 zK 1344]
theorem zhr:zl zr 72 zd zhs=true:=by decide +kernel
def zhq:List Sm:=[zk 1348,
 zK 1348]
theorem zhp:zl zr 72 zd zhq=true:=by decide +kernel
def zho:List Sm:=[zk 1352,
 zK 1352]
theorem zhn:zl zr 72 zd zho=true:=by decide +kernel
def zhm:List Sm:=[zk 1356,
 zK 1356]
theorem zhl:zl zr 72 zd zhm=true:=by decide +kernel
def zhk:List Sm:=[zk 1360,
 zK 1360]
theorem zhj:zl zr 72 zd zhk=true:=by decide +kernel
def zhi:List Sm:=[zk 1364,
 zK 1364]
theorem zhh:zl zr 72 zd zhi=true:=by decide +kernel
def zhg:List Sm:=[zk 1368,
 zK 1368]
theorem zhf:zl zr 72 zd zhg=true:=by decide +kernel
def zhe:List Sm:=[zk 1372,
 zK 1372]
theorem zhd:zl zr 72 zd zhe=true:=by decide +kernel
def zhc:List Sm:=[zk 1376,
 zK 1376]
theorem zhb:zl zr 72 zd zhc=true:=by decide +kernel
def zha:List Sm:=[zk 1380,
 zK 1380]
theorem zg9:zl zr 72 zd zha=true:=by decide +kernel
def zg8:List Sm:=[zk 1384,
 zK 1384]
theorem zg7:zl zr 72 zd zg8=true:=by decide +kernel
def zg6:List Sm:=[zk 1388,
 zK 1388]
theorem zg5:zl zr 72 zd zg6=true:=by decide +kernel
def zg4:List Sm:=[zk 1392,
 zK 1392]
theorem zg3:zl zr 72 zd zg4=true:=by decide +kernel
def zg2:List Sm:=[zk 1396,
 zK 1396]
theorem zg1:zl zr 72 zd zg2=true:=by decide +kernel
def zg0:List Sm:=[zk 1400,
 zK 1400]
theorem zgZ:zl zr 72 zd zg0=true:=by decide +kernel
def zgY:List Sm:=[zk 1404,
 zK 1404]
theorem zgX:zl zr 72 zd zgY=true:=by decide +kernel
def s101_1:List Sm:=[⟨[(.one (.i .i64 1)),(.one (.w .u64 10))],[],[],(.one (.one (.i .i64 0))),[(1,(.s .u64 (.v 10)))],1⟩]
theorem zou:zl zdI 101 zd s101_1=true:=by decide +kernel
def s101_2:List Sm:=[⟨[(.one (.i .i64 2)),(.one (.w .u64 10))],[],[],(.one (.one (.i .i64 0))),[(2,(.s .u64 (.v 10)))],1⟩]
theorem zot:zl zdI 101 zd s101_2=true:=by decide +kernel
def s101_4:List Sm:=[⟨[(.one (.i .i64 4)),(.one (.w .u64 10))],[],[],(.one (.one (.i .i64 0))),[(4,(.s .u64 (.v 10)))],1⟩]
theorem zos:zl zdI 101 zd s101_4=true:=by decide +kernel
def s101_8:List Sm:=[⟨[(.one (.i .i64 8)),(.one (.w .u64 10))],[],[],(.one (.one (.i .i64 0))),[(8,(.s .u64 (.v 10)))],1⟩]
theorem zor:zl zdI 101 zd s101_8=true:=by decide +kernel
def znc:List Sm:=[⟨[(.one (.i .i64 17)),(.one (.w .u64 10))],[],[],(.one (.one (.i .i64 0))),[(17,(.s .u64 (.v 10)))],1⟩]
theorem zmg:zl zdI 101 zd znc=true:=by decide +kernel
def zkT:List Sm:=[⟨[(.one (.i .i64 265)),(.one (.w .u64 10))],[],[],(.one (.one (.i .i64 0))),[(265,(.s .u64 (.v 10)))],1⟩]
theorem zkS:zl zdI 101 zd zkT=true:=by decide +kernel
def zfp:List Sm:=[⟨[(.one (.i .i64 1288))],[(1288,100),(1289,101)],[((.cmp .neq (.op .shr .u64 (.v 100) (.lit 34)) (.lit 0)),false),((.cmp .neq (.op .shr .u64 (.v 101) (.lit 44)) (.lit 0)),false),((.cmp .gtr (.cv .i64 (.op .shr .u64 (.op .and .u64 (.v 100) (.lit 262140)) (.lit 2))) (.lit 0)),false),((.cmp .eql (.cv .i64 (.op .shr .u64 (.op .and .u64 (.v 100) (.lit 262140)) (.lit 2))) (.lit 0)),true),((.cmp .eql (.cv .i64 (.op .shr .u64 (.op .and .u64 (.v 100) (.lit 3)) (.lit 0))) (.lit 0)),true),((.cmp .eql (.cv .i64 (.op .shr .u64 (.op .and .u64 (.v 100) (.lit 17179607040)) (.lit 18))) (.lit 0)),true),((.cmp .gtr (.cv .i64 (.op .shr .u64 (.op .and .u64 (.v 101) (.lit 268435455)) (.lit 0))) (.lit 0)),false)],(.tup [(.agg [(.i .i64 0),(.i .i64 0),(.i .i64 0),(.s .i64 (.cv .i64 (.op .shr .u64 (.op .and .u64 (.v 101) (.lit 268435455)) (.lit 0)))),(.s .i64 (.cv .i64 (.op .shr .u64 (.op .and .u64 (.v 101) (.lit 17591917608960)) (.lit 28))))]),(.one (.i .i64 0))]),[],2⟩]
theorem zf5:zl mc243 243 zd zfp=true:=by decide +kernel
def zfo:List Sm:=[zgK 1280,
 zgJ 1280]
theorem zf4:zl znr 245 zd zfo=true:=by decide +kernel
def zfn:List Sm:=[zgK 1408,
 zgJ 1408]
theorem zf3:zl znr 245 zd zfn=true:=by decide +kernel
def zfm:List Sm:=[zgI 1280,
 zgH 1280]
theorem zf2:zl znq 291 zd zfm=true:=by decide +kernel
def zfl:List Sm:=[zgI 1408,
 zgH 1408]
theorem zf1:zl znq 291 zd zfl=true:=by decide +kernel
end Go.Ev.X
end
