import Derived.Test.YtckgidiokbofiaaGreatDoorMSD0
set_option linter.unusedSimpArgs false
set_option linter.unusedVariables false
set_option maxRecDepth 100000
noncomputable section
namespace Go.Ev.X
open Go Go.Ev
def zmK:List Sm:=[zD 1268]
theorem zmJ:zg z9 71 zc zmK=true:=by decide +kernel
def zmI:List Sm:=[zD 1272]
theorem zmH:zg z9 71 zc zmI=true:=by decide +kernel
def zmG:List Sm:=[zD 1276]
theorem zmF:zg z9 71 zc zmG=true:=by decide +kernel
def s101_1:List Sm:=[⟨[(.one (.i .i64 1)),(.one (.w .u64 10))],[],[],(.one (.one (.i .i64 0))),[(1,(.s .u64 (.v 10)))],1⟩]
theorem zxF:zg zk 101 zc s101_1=true:=by decide +kernel
def s101_2:List Sm:=[⟨[(.one (.i .i64 2)),(.one (.w .u64 10))],[],[],(.one (.one (.i .i64 0))),[(2,(.s .u64 (.v 10)))],1⟩]
theorem zxE:zg zk 101 zc s101_2=true:=by decide +kernel
def s101_4:List Sm:=[⟨[(.one (.i .i64 4)),(.one (.w .u64 10))],[],[],(.one (.one (.i .i64 0))),[(4,(.s .u64 (.v 10)))],1⟩]
theorem zxD:zg zk 101 zc s101_4=true:=by decide +kernel
def s101_8:List Sm:=[⟨[(.one (.i .i64 8)),(.one (.w .u64 10))],[],[],(.one (.one (.i .i64 0))),[(8,(.s .u64 (.v 10)))],1⟩]
theorem zxC:zg zk 101 zc s101_8=true:=by decide +kernel
def zwc:List Sm:=[⟨[(.one (.i .i64 17)),(.one (.w .u64 10))],[],[],(.one (.one (.i .i64 0))),[(17,(.s .u64 (.v 10)))],1⟩]
theorem zu3:zg zk 101 zc zwc=true:=by decide +kernel
def ztu:List Sm:=[zf 259]
theorem ztt:zg zk 101 zc ztu=true:=by decide +kernel
def zts:List Sm:=[zf 265]
theorem ztr:zg zk 101 zc zts=true:=by decide +kernel
def ziC:List Sm:=[zf 1152]
theorem zlE:zg zk 101 zc ziC=true:=by decide +kernel
def ziB:List Sm:=[zf 1160]
theorem zlD:zg zk 101 zc ziB=true:=by decide +kernel
def ziA:List Sm:=[zf 1168]
theorem zlC:zg zk 101 zc ziA=true:=by decide +kernel
def ziz:List Sm:=[zf 1176]
theorem zlB:zg zk 101 zc ziz=true:=by decide +kernel
def ziy:List Sm:=[zf 1184]
theorem zlA:zg zk 101 zc ziy=true:=by decide +kernel
def zix:List Sm:=[zf 1185]
theorem zlz:zg zk 101 zc zix=true:=by decide +kernel
def ziw:List Sm:=[zf 1186]
theorem zly:zg zk 101 zc ziw=true:=by decide +kernel
def ziv:List Sm:=[zf 1187]
theorem zlx:zg zk 101 zc ziv=true:=by decide +kernel
def ziu:List Sm:=[zf 1188]
theorem zlw:zg zk 101 zc ziu=true:=by decide +kernel
def zit:List Sm:=[zf 1189]
theorem zlv:zg zk 101 zc zit=true:=by decide +kernel
def zis:List Sm:=[zf 1190]
theorem zlu:zg zk 101 zc zis=true:=by decide +kernel
def zir:List Sm:=[zf 1191]
theorem zlt:zg zk 101 zc zir=true:=by decide +kernel
def ziq:List Sm:=[zf 1200]
theorem zls:zg zk 101 zc ziq=true:=by decide +kernel
def zio:List Sm:=[zf 1201]
theorem zlr:zg zk 101 zc zio=true:=by decide +kernel
def zin:List Sm:=[zf 1202]
theorem zlq:zg zk 101 zc zin=true:=by decide +kernel
def zim:List Sm:=[zf 1203]
theorem zlp:zg zk 101 zc zim=true:=by decide +kernel
def zil:List Sm:=[zf 1204]
theorem zlo:zg zk 101 zc zil=true:=by decide +kernel
def zik:List Sm:=[zf 1205]
theorem zln:zg zk 101 zc zik=true:=by decide +kernel
def zij:List Sm:=[zf 1206]
theorem zlm:zg zk 101 zc zij=true:=by decide +kernel
def zii:List Sm:=[zf 1207]
theorem zll:zg zk 101 zc zii=true:=by decide +kernel
def zih:List Sm:=[zf 1208]
theorem zlk:zg zk 101 zc zih=true:=by decide +kernel
def zig:List Sm:=[zf 1209]
theorem zlj:zg zk 101 zc zig=true:=by decide +kernel
def zif:List Sm:=[zf 1210]
theorem zli:zg zk 101 zc zif=true:=by decide +kernel
def zie:List Sm:=[zf 1211]
theorem zlh:zg zk 101 zc zie=true:=by decide +kernel
def zid:List Sm:=[zf 1212]
theorem zlg:zg zk 101 zc zid=true:=by decide +kernel
def zic:List Sm:=[zf 1213]
theorem zlf:zg zk 101 zc zic=true:=by decide +kernel
def zib:List Sm:=[zf 1214]
theorem zle:zg zk 101 zc zib=true:=by decide +kernel
def zia:List Sm:=[zf 1215]
theorem zld:zg zk 101 zc zia=true:=by decide +kernel
def zh9:List Sm:=[zf 1216]
theorem zlc:zg zk 101 zc zh9=true:=by decide +kernel
def zh8:List Sm:=[zf 1217]
theorem zlb:zg zk 101 zc zh8=true:=by decide +kernel
def zh7:List Sm:=[zf 1218]
theorem zla:zg zk 101 zc zh7=true:=by decide +kernel
def zh6:List Sm:=[zf 1219]
theorem zk9:zg zk 101 zc zh6=true:=by decide +kernel
def zh5:List Sm:=[zf 1220]
theorem zk8:zg zk 101 zc zh5=true:=by decide +kernel
def zh4:List Sm:=[zf 1221]
theorem zk7:zg zk 101 zc zh4=true:=by decide +kernel
def zh3:List Sm:=[zf 1222]
theorem zk6:zg zk 101 zc zh3=true:=by decide +kernel
def zh2:List Sm:=[zf 1223]
theorem zk5:zg zk 101 zc zh2=true:=by decide +kernel
def zh1:List Sm:=[zf 1224]
theorem zk4:zg zk 101 zc zh1=true:=by decide +kernel
def zh0:List Sm:=[zf 1225]
theorem zk3:zg zk 101 zc zh0=true:=by decide +kernel
def zhZ:List Sm:=[zf 1226]
theorem zk2:zg zk 101 zc zhZ=true:=by decide +kernel
def zhY:List Sm:=[zf 1227]
theorem zk1:zg zk 101 zc zhY=true:=by decide +kernel
def zhX:List Sm:=[zf 1228]
theorem zk0:zg zk 101 zc zhX=true:=by decide +kernel
def zhW:List Sm:=[zf 1229]
theorem zkZ:zg zk 101 zc zhW=true:=by decide +kernel
def zhV:List Sm:=[zf 1230]
theorem zkY:zg zk 101 zc zhV=true:=by decide +kernel
def zhU:List Sm:=[zf 1231]
theorem zkX:zg zk 101 zc zhU=true:=by decide +kernel
def zhT:List Sm:=[zf 1232]
theorem zkW:zg zk 101 zc zhT=true:=by decide +kernel
def zhS:List Sm:=[zf 1233]
theorem zkV:zg zk 101 zc zhS=true:=by decide +kernel
def zhR:List Sm:=[zf 1234]
theorem zkU:zg zk 101 zc zhR=true:=by decide +kernel
def zhQ:List Sm:=[zf 1235]
theorem zkT:zg zk 101 zc zhQ=true:=by decide +kernel
def zhP:List Sm:=[zf 1236]
theorem zkS:zg zk 101 zc zhP=true:=by decide +kernel
def zhO:List Sm:=[zf 1237]
theorem zkR:zg zk 101 zc zhO=true:=by decide +kernel
def zhN:List Sm:=[zf 1238]
theorem zkQ:zg zk 101 zc zhN=true:=by decide +kernel
def zhM:List Sm:=[zf 1239]
theorem zkP:zg zk 101 zc zhM=true:=by decide +kernel
def zhL:List Sm:=[zf 1240]
theorem zkO:zg zk 101 zc zhL=true:=by decide +kernel
def zhK:List Sm:=[zf 1241]
theorem zkN:zg zk 101 zc zhK=true:=by decide +kernel
def zhJ:List Sm:=[zf 1242]
theorem zkM:zg zk 101 zc zhJ=true:=by decide +kernel
def zhI:List Sm:=[zf 1243]
theorem zkL:zg zk 101 zc zhI=true:=by decide +kernel
def zhH:List Sm:=[zf 1244]
theorem zkK:zg zk 101 zc zhH=true:=by decide +kernel
def zhG:List Sm:=[zf 1245]
theorem zkJ:zg zk 101 zc zhG=true:=by decide +kernel
def zhF:List Sm:=[zf 1246]
theorem zkI:zg zk 101 zc zhF=true:=by decide +kernel
def zhE:List Sm:=[zf 1247]
theorem zkH:zg zk 101 zc zhE=true:=by decide +kernel
def zhD:List Sm:=[zf 1248]
theorem zkG:zg zk 101 zc zhD=true:=by decide +kernel
def zhC:List Sm:=[zf 1249]
theorem zkF:zg zk 101 zc zhC=true:=by decide +kernel
def zhB:List Sm:=[zf 1250]
theorem zkE:zg zk 101 zc zhB=true:=by decide +kernel
def zhA:List Sm:=[zf 1251]
theorem zkD:zg zk 101 zc zhA=true:=by decide +kernel
def zhz:List Sm:=[zf 1252]
theorem zkC:zg zk 101 zc zhz=true:=by decide +kernel
def zhy:List Sm:=[zf 1253]
theorem zkB:zg zk 101 zc zhy=true:=by decide +kernel
def zhx:List Sm:=[zf 1254]
theorem zkA:zg zk 101 zc zhx=true:=by decide +kernel
def zhw:List Sm:=[zf 1255]
theorem zkz:zg zk 101 zc zhw=true:=by decide +kernel
def zhv:List Sm:=[zf 1256]
theorem zky:zg zk 101 zc zhv=true:=by decide +kernel
end Go.Ev.X
end
