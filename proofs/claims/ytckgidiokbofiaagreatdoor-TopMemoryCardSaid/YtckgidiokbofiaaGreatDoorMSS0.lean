import Derived.Test.YtckgidiokbofiaaGreatDoorMSD0
set_option linter.unusedSimpArgs false
set_option linter.unusedVariables false
set_option maxRecDepth 100000
noncomputable section
namespace Go.Ev.X
open Go Go.Ev
def ztq:List Sm:=[⟨[(.one (.i .i64 1024)),(.one (.i .i64 9))],[(1065,100)],[],(.tup [(.one (.s .u64 (.v 100))),(.one (.i .i64 0))]),[],1⟩]
theorem ztp:zg mc11 11 zc ztq=true:=by decide +kernel
def zto:List Sm:=[⟨[(.one (.i .i64 1024))],[(1040,100),(1041,101),(1042,102),(1043,103),(1056,104),(1057,105),(1058,106),(1059,107),(1060,108),(1061,109),(1062,110),(1063,111),(1064,112),(1065,113),(1066,114),(1067,115),(1068,116),(1069,117),(1070,118),(1071,119)],[((.cmp .neq (.op .shr .u64 (.v 100) (.lit 19)) (.lit 0)),false),((.cmp .neq (.op .shr .u64 (.v 101) (.lit 64)) (.lit 0)),false),((.cmp .neq (.op .shr .u64 (.v 102) (.lit 28)) (.lit 0)),false),((.cmp .neq (.op .shr .u64 (.v 103) (.lit 64)) (.lit 0)),false),((.cmp .gtr (.cv .i64 (.op .shr .u64 (.op .and .u64 (.v 100) (.lit 7)) (.lit 0))) (.lit 5)),false),((.cmp .gtr (.cv .i64 (.op .shr .u64 (.op .and .u64 (.v 100) (.lit 14336)) (.lit 11))) (.lit 5)),false)],(.tup [(.agg [(.s .i64 (.cv .i64 (.op .shr .u64 (.op .and .u64 (.v 100) (.lit 7)) (.lit 0)))),(.s .i64 (.cv .i64 (.op .shr .u64 (.op .and .u64 (.v 100) (.lit 2040)) (.lit 3)))),(.s .i64 (.cv .i64 (.op .shr .u64 (.op .and .u64 (.v 100) (.lit 14336)) (.lit 11)))),(.c (.cmp .eql (.cv .i64 (.op .shr .u64 (.op .and .u64 (.v 100) (.lit 16384)) (.lit 14))) (.lit 1))),(.s .i64 (.cv .i64 (.op .shr .u64 (.op .and .u64 (.v 101) (.lit 65535)) (.lit 0)))),(.s .i64 (.cv .i64 (.op .shr .u64 (.op .and .u64 (.v 101) (.lit 4294901760)) (.lit 16)))),(.s .i64 (.cv .i64 (.op .shr .u64 (.op .and .u64 (.v 101) (.lit 281470681743360)) (.lit 32)))),(.s .i64 (.cv .i64 (.op .shr .u64 (.op .and .u64 (.v 102) (.lit 268435455)) (.lit 0)))),(.c (.cmp .eql (.cv .i64 (.op .shr .u64 (.op .and .u64 (.v 100) (.lit 32768)) (.lit 15))) (.lit 1))),(.c (.cmp .eql (.cv .i64 (.op .shr .u64 (.op .and .u64 (.v 100) (.lit 65536)) (.lit 16))) (.lit 1))),(.s .i64 (.cv .i64 (.op .shr .u64 (.op .and .u64 (.v 101) (.lit 18446462598732840960)) (.lit 48)))),(.s .i64 (.cv .i64 (.op .shr .u64 (.op .and .u64 (.v 103) (.lit 4294967295)) (.lit 0)))),(.s .i64 (.cv .i64 (.op .shr .u64 (.op .and .u64 (.v 100) (.lit 393216)) (.lit 17)))),(.s .i64 (.cv .i64 (.op .shr .u64 (.op .and .u64 (.v 103) (.lit 18446744069414584320)) (.lit 32)))),(.s .u64 (.v 104)),(.s .u64 (.v 105)),(.s .u64 (.v 106)),(.s .u64 (.v 107)),(.s .u64 (.v 108)),(.s .u64 (.v 109)),(.s .u64 (.v 110)),(.s .u64 (.v 111)),(.s .u64 (.v 112)),(.s .u64 (.v 113)),(.s .u64 (.v 114)),(.s .u64 (.v 115)),(.s .u64 (.v 116)),(.s .u64 (.v 117)),(.s .u64 (.v 118)),(.s .u64 (.v 119))]),(.one (.i .i64 0))]),[],20⟩]
theorem ztn:zg mc24 24 zc zto=true:=by decide +kernel
def ztm:List Sm:=[⟨[(.one (.i .i64 1088))],[(1104,100),(1105,101),(1106,102),(1107,103),(1120,104),(1121,105),(1122,106),(1123,107),(1124,108),(1125,109),(1126,110),(1127,111),(1128,112),(1129,113),(1130,114),(1131,115),(1132,116),(1133,117),(1134,118),(1135,119)],[((.cmp .neq (.op .shr .u64 (.v 100) (.lit 19)) (.lit 0)),false),((.cmp .neq (.op .shr .u64 (.v 101) (.lit 64)) (.lit 0)),false),((.cmp .neq (.op .shr .u64 (.v 102) (.lit 28)) (.lit 0)),false),((.cmp .neq (.op .shr .u64 (.v 103) (.lit 64)) (.lit 0)),false),((.cmp .gtr (.cv .i64 (.op .shr .u64 (.op .and .u64 (.v 100) (.lit 7)) (.lit 0))) (.lit 5)),false),((.cmp .gtr (.cv .i64 (.op .shr .u64 (.op .and .u64 (.v 100) (.lit 14336)) (.lit 11))) (.lit 5)),false)],(.tup [(.agg [(.s .i64 (.cv .i64 (.op .shr .u64 (.op .and .u64 (.v 100) (.lit 7)) (.lit 0)))),(.s .i64 (.cv .i64 (.op .shr .u64 (.op .and .u64 (.v 100) (.lit 2040)) (.lit 3)))),(.s .i64 (.cv .i64 (.op .shr .u64 (.op .and .u64 (.v 100) (.lit 14336)) (.lit 11)))),(.c (.cmp .eql (.cv .i64 (.op .shr .u64 (.op .and .u64 (.v 100) (.lit 16384)) (.lit 14))) (.lit 1))),(.s .i64 (.cv .i64 (.op .shr .u64 (.op .and .u64 (.v 101) (.lit 65535)) (.lit 0)))),(.s .i64 (.cv .i64 (.op .shr .u64 (.op .and .u64 (.v 101) (.lit 4294901760)) (.lit 16)))),(.s .i64 (.cv .i64 (.op .shr .u64 (.op .and .u64 (.v 101) (.lit 281470681743360)) (.lit 32)))),(.s .i64 (.cv .i64 (.op .shr .u64 (.op .and .u64 (.v 102) (.lit 268435455)) (.lit 0)))),(.c (.cmp .eql (.cv .i64 (.op .shr .u64 (.op .and .u64 (.v 100) (.lit 32768)) (.lit 15))) (.lit 1))),(.c (.cmp .eql (.cv .i64 (.op .shr .u64 (.op .and .u64 (.v 100) (.lit 65536)) (.lit 16))) (.lit 1))),(.s .i64 (.cv .i64 (.op .shr .u64 (.op .and .u64 (.v 101) (.lit 18446462598732840960)) (.lit 48)))),(.s .i64 (.cv .i64 (.op .shr .u64 (.op .and .u64 (.v 103) (.lit 4294967295)) (.lit 0)))),(.s .i64 (.cv .i64 (.op .shr .u64 (.op .and .u64 (.v 100) (.lit 393216)) (.lit 17)))),(.s .i64 (.cv .i64 (.op .shr .u64 (.op .and .u64 (.v 103) (.lit 18446744069414584320)) (.lit 32)))),(.s .u64 (.v 104)),(.s .u64 (.v 105)),(.s .u64 (.v 106)),(.s .u64 (.v 107)),(.s .u64 (.v 108)),(.s .u64 (.v 109)),(.s .u64 (.v 110)),(.s .u64 (.v 111)),(.s .u64 (.v 112)),(.s .u64 (.v 113)),(.s .u64 (.v 114)),(.s .u64 (.v 115)),(.s .u64 (.v 116)),(.s .u64 (.v 117)),(.s .u64 (.v 118)),(.s .u64 (.v 119))]),(.one (.i .i64 0))]),[],20⟩]
theorem ztl:zg mc24 24 zc ztm=true:=by decide +kernel
def s34_1:List Sm:=[⟨[(.one (.i .i64 1))],[(1,100)],[],(.tup [(.one (.s .u64 (.v 100))),(.one (.i .i64 0))]),[],1⟩]
theorem zzs:zg zt 34 zc s34_1=true:=by decide +kernel
def s34_2:List Sm:=[⟨[(.one (.i .i64 2))],[(2,100)],[],(.tup [(.one (.s .u64 (.v 100))),(.one (.i .i64 0))]),[],1⟩]
theorem zzr:zg zt 34 zc s34_2=true:=by decide +kernel
def s34_4:List Sm:=[⟨[(.one (.i .i64 4))],[(4,100)],[],(.tup [(.one (.s .u64 (.v 100))),(.one (.i .i64 0))]),[],1⟩]
theorem zzq:zg zt 34 zc s34_4=true:=by decide +kernel
def s34_8:List Sm:=[⟨[(.one (.i .i64 8))],[(8,100)],[],(.tup [(.one (.s .u64 (.v 100))),(.one (.i .i64 0))]),[],1⟩]
theorem zzp:zg zt 34 zc s34_8=true:=by decide +kernel
def s34_17:List Sm:=[⟨[(.one (.i .i64 17))],[(17,100)],[],(.tup [(.one (.s .u64 (.v 100))),(.one (.i .i64 0))]),[],1⟩]
theorem zxB:zg zt 34 zc s34_17=true:=by decide +kernel
def zwb:List Sm:=[zh 259]
theorem zu2:zg zt 34 zc zwb=true:=by decide +kernel
def zwa:List Sm:=[zh 265]
theorem zu1:zg zt 34 zc zwa=true:=by decide +kernel
def ztk:List Sm:=[zh 1152]
theorem ztj:zg zt 34 zc ztk=true:=by decide +kernel
def zti:List Sm:=[zh 1160]
theorem zth:zg zt 34 zc zti=true:=by decide +kernel
def ztg:List Sm:=[zh 1168]
theorem ztf:zg zt 34 zc ztg=true:=by decide +kernel
def zte:List Sm:=[zh 1176]
theorem ztd:zg zt 34 zc zte=true:=by decide +kernel
def ztc:List Sm:=[zh 1184]
theorem ztb:zg zt 34 zc ztc=true:=by decide +kernel
def zta:List Sm:=[zh 1185]
theorem zs9:zg zt 34 zc zta=true:=by decide +kernel
def zs8:List Sm:=[zh 1186]
theorem zs7:zg zt 34 zc zs8=true:=by decide +kernel
def zs6:List Sm:=[zh 1187]
theorem zs5:zg zt 34 zc zs6=true:=by decide +kernel
def zs4:List Sm:=[zh 1188]
theorem zs3:zg zt 34 zc zs4=true:=by decide +kernel
def zs2:List Sm:=[zh 1189]
theorem zs1:zg zt 34 zc zs2=true:=by decide +kernel
def zs0:List Sm:=[zh 1190]
theorem zsZ:zg zt 34 zc zs0=true:=by decide +kernel
def zsY:List Sm:=[zh 1191]
theorem zsX:zg zt 34 zc zsY=true:=by decide +kernel
def zsW:List Sm:=[zh 1200]
theorem zsV:zg zt 34 zc zsW=true:=by decide +kernel
def zsU:List Sm:=[zh 1201]
theorem zsT:zg zt 34 zc zsU=true:=by decide +kernel
def zsS:List Sm:=[zh 1202]
theorem zsR:zg zt 34 zc zsS=true:=by decide +kernel
def zsQ:List Sm:=[zh 1203]
theorem zsP:zg zt 34 zc zsQ=true:=by decide +kernel
def zsO:List Sm:=[zh 1204]
theorem zsN:zg zt 34 zc zsO=true:=by decide +kernel
def zsM:List Sm:=[zh 1205]
theorem zsL:zg zt 34 zc zsM=true:=by decide +kernel
def zsK:List Sm:=[zh 1206]
theorem zsJ:zg zt 34 zc zsK=true:=by decide +kernel
def zsI:List Sm:=[zh 1207]
theorem zsH:zg zt 34 zc zsI=true:=by decide +kernel
def zsG:List Sm:=[zh 1208]
theorem zsF:zg zt 34 zc zsG=true:=by decide +kernel
def zsE:List Sm:=[zh 1209]
theorem zsD:zg zt 34 zc zsE=true:=by decide +kernel
def zsC:List Sm:=[zh 1210]
theorem zsB:zg zt 34 zc zsC=true:=by decide +kernel
def zsA:List Sm:=[zh 1211]
theorem zsz:zg zt 34 zc zsA=true:=by decide +kernel
def zsy:List Sm:=[zh 1212]
theorem zsx:zg zt 34 zc zsy=true:=by decide +kernel
def zsw:List Sm:=[zh 1213]
theorem zsv:zg zt 34 zc zsw=true:=by decide +kernel
def zsu:List Sm:=[zh 1214]
theorem zst:zg zt 34 zc zsu=true:=by decide +kernel
def zss:List Sm:=[zh 1215]
theorem zsr:zg zt 34 zc zss=true:=by decide +kernel
def zsq:List Sm:=[zh 1216]
theorem zsp:zg zt 34 zc zsq=true:=by decide +kernel
def zso:List Sm:=[zh 1217]
theorem zsn:zg zt 34 zc zso=true:=by decide +kernel
def zsm:List Sm:=[zh 1218]
theorem zsl:zg zt 34 zc zsm=true:=by decide +kernel
def zsk:List Sm:=[zh 1219]
theorem zsj:zg zt 34 zc zsk=true:=by decide +kernel
def zsi:List Sm:=[zh 1220]
theorem zsh:zg zt 34 zc zsi=true:=by decide +kernel
def zsg:List Sm:=[zh 1221]
theorem zsf:zg zt 34 zc zsg=true:=by decide +kernel
def zse:List Sm:=[zh 1222]
theorem zsd:zg zt 34 zc zse=true:=by decide +kernel
def zsc:List Sm:=[zh 1223]
theorem zsb:zg zt 34 zc zsc=true:=by decide +kernel
def zsa:List Sm:=[zh 1224]
theorem zr9:zg zt 34 zc zsa=true:=by decide +kernel
def zr8:List Sm:=[zh 1225]
theorem zr7:zg zt 34 zc zr8=true:=by decide +kernel
def zr6:List Sm:=[zh 1226]
theorem zr5:zg zt 34 zc zr6=true:=by decide +kernel
def zr4:List Sm:=[zh 1227]
theorem zr3:zg zt 34 zc zr4=true:=by decide +kernel
def zr2:List Sm:=[zh 1228]
theorem zr1:zg zt 34 zc zr2=true:=by decide +kernel
def zr0:List Sm:=[zh 1229]
theorem zrZ:zg zt 34 zc zr0=true:=by decide +kernel
def zrY:List Sm:=[zh 1230]
theorem zrX:zg zt 34 zc zrY=true:=by decide +kernel
def zrW:List Sm:=[zh 1231]
theorem zrV:zg zt 34 zc zrW=true:=by decide +kernel
def zrU:List Sm:=[zh 1232]
theorem zrT:zg zt 34 zc zrU=true:=by decide +kernel
def zrS:List Sm:=[zh 1233]
theorem zrR:zg zt 34 zc zrS=true:=by decide +kernel
def zrQ:List Sm:=[zh 1234]
theorem zrP:zg zt 34 zc zrQ=true:=by decide +kernel
def zrO:List Sm:=[zh 1235]
theorem zrN:zg zt 34 zc zrO=true:=by decide +kernel
def zrM:List Sm:=[zh 1236]
theorem zrL:zg zt 34 zc zrM=true:=by decide +kernel
def zrK:List Sm:=[zh 1237]
theorem zrJ:zg zt 34 zc zrK=true:=by decide +kernel
def zrI:List Sm:=[zh 1238]
theorem zrH:zg zt 34 zc zrI=true:=by decide +kernel
def zrG:List Sm:=[zh 1239]
theorem zrF:zg zt 34 zc zrG=true:=by decide +kernel
def zrE:List Sm:=[zh 1240]
theorem zrD:zg zt 34 zc zrE=true:=by decide +kernel
def zrC:List Sm:=[zh 1241]
theorem zrB:zg zt 34 zc zrC=true:=by decide +kernel
end Go.Ev.X
end
