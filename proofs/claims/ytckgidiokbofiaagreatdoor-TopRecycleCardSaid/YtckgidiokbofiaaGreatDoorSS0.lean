import Derived.Test.YtckgidiokbofiaaGreatDoorSD0
set_option linter.unusedSimpArgs false
set_option linter.unusedVariables false
set_option maxRecDepth 100000
noncomputable section
namespace Go.Ev.X
open Go Go.Ev
def znl:List Sm:=[⟨[(.one (.i .i64 1024))],[(1040,100),(1041,101),(1042,102),(1043,103),(1056,104),(1057,105),(1058,106),(1059,107),(1060,108),(1061,109),(1062,110),(1063,111),(1064,112),(1065,113),(1066,114),(1067,115),(1068,116),(1069,117),(1070,118),(1071,119)],[((.cmp .neq (.op .shr .u64 (.v 100) (.lit 19)) (.lit 0)),false),((.cmp .neq (.op .shr .u64 (.v 101) (.lit 64)) (.lit 0)),false),((.cmp .neq (.op .shr .u64 (.v 102) (.lit 28)) (.lit 0)),false),((.cmp .neq (.op .shr .u64 (.v 103) (.lit 64)) (.lit 0)),false),((.cmp .gtr (.cv .i64 (.op .shr .u64 (.op .and .u64 (.v 100) (.lit 7)) (.lit 0))) (.lit 5)),false),((.cmp .gtr (.cv .i64 (.op .shr .u64 (.op .and .u64 (.v 100) (.lit 14336)) (.lit 11))) (.lit 5)),false)],(.tup [(.agg [(.s .i64 (.cv .i64 (.op .shr .u64 (.op .and .u64 (.v 100) (.lit 7)) (.lit 0)))),(.s .i64 (.cv .i64 (.op .shr .u64 (.op .and .u64 (.v 100) (.lit 2040)) (.lit 3)))),(.s .i64 (.cv .i64 (.op .shr .u64 (.op .and .u64 (.v 100) (.lit 14336)) (.lit 11)))),(.c (.cmp .eql (.cv .i64 (.op .shr .u64 (.op .and .u64 (.v 100) (.lit 16384)) (.lit 14))) (.lit 1))),(.s .i64 (.cv .i64 (.op .shr .u64 (.op .and .u64 (.v 101) (.lit 65535)) (.lit 0)))),(.s .i64 (.cv .i64 (.op .shr .u64 (.op .and .u64 (.v 101) (.lit 4294901760)) (.lit 16)))),(.s .i64 (.cv .i64 (.op .shr .u64 (.op .and .u64 (.v 101) (.lit 281470681743360)) (.lit 32)))),(.s .i64 (.cv .i64 (.op .shr .u64 (.op .and .u64 (.v 102) (.lit 268435455)) (.lit 0)))),(.c (.cmp .eql (.cv .i64 (.op .shr .u64 (.op .and .u64 (.v 100) (.lit 32768)) (.lit 15))) (.lit 1))),(.c (.cmp .eql (.cv .i64 (.op .shr .u64 (.op .and .u64 (.v 100) (.lit 65536)) (.lit 16))) (.lit 1))),(.s .i64 (.cv .i64 (.op .shr .u64 (.op .and .u64 (.v 101) (.lit 18446462598732840960)) (.lit 48)))),(.s .i64 (.cv .i64 (.op .shr .u64 (.op .and .u64 (.v 103) (.lit 4294967295)) (.lit 0)))),(.s .i64 (.cv .i64 (.op .shr .u64 (.op .and .u64 (.v 100) (.lit 393216)) (.lit 17)))),(.s .i64 (.cv .i64 (.op .shr .u64 (.op .and .u64 (.v 103) (.lit 18446744069414584320)) (.lit 32)))),(.s .u64 (.v 104)),(.s .u64 (.v 105)),(.s .u64 (.v 106)),(.s .u64 (.v 107)),(.s .u64 (.v 108)),(.s .u64 (.v 109)),(.s .u64 (.v 110)),(.s .u64 (.v 111)),(.s .u64 (.v 112)),(.s .u64 (.v 113)),(.s .u64 (.v 114)),(.s .u64 (.v 115)),(.s .u64 (.v 116)),(.s .u64 (.v 117)),(.s .u64 (.v 118)),(.s .u64 (.v 119))]),(.one (.i .i64 0))]),[],20⟩]
theorem znk:zk mc24 24 ze znl=true:=by decide +kernel
def znj:List Sm:=[⟨[(.one (.i .i64 1088))],[(1104,100),(1105,101),(1106,102),(1107,103),(1120,104),(1121,105),(1122,106),(1123,107),(1124,108),(1125,109),(1126,110),(1127,111),(1128,112),(1129,113),(1130,114),(1131,115),(1132,116),(1133,117),(1134,118),(1135,119)],[((.cmp .neq (.op .shr .u64 (.v 100) (.lit 19)) (.lit 0)),false),((.cmp .neq (.op .shr .u64 (.v 101) (.lit 64)) (.lit 0)),false),((.cmp .neq (.op .shr .u64 (.v 102) (.lit 28)) (.lit 0)),false),((.cmp .neq (.op .shr .u64 (.v 103) (.lit 64)) (.lit 0)),false),((.cmp .gtr (.cv .i64 (.op .shr .u64 (.op .and .u64 (.v 100) (.lit 7)) (.lit 0))) (.lit 5)),false),((.cmp .gtr (.cv .i64 (.op .shr .u64 (.op .and .u64 (.v 100) (.lit 14336)) (.lit 11))) (.lit 5)),false)],(.tup [(.agg [(.s .i64 (.cv .i64 (.op .shr .u64 (.op .and .u64 (.v 100) (.lit 7)) (.lit 0)))),(.s .i64 (.cv .i64 (.op .shr .u64 (.op .and .u64 (.v 100) (.lit 2040)) (.lit 3)))),(.s .i64 (.cv .i64 (.op .shr .u64 (.op .and .u64 (.v 100) (.lit 14336)) (.lit 11)))),(.c (.cmp .eql (.cv .i64 (.op .shr .u64 (.op .and .u64 (.v 100) (.lit 16384)) (.lit 14))) (.lit 1))),(.s .i64 (.cv .i64 (.op .shr .u64 (.op .and .u64 (.v 101) (.lit 65535)) (.lit 0)))),(.s .i64 (.cv .i64 (.op .shr .u64 (.op .and .u64 (.v 101) (.lit 4294901760)) (.lit 16)))),(.s .i64 (.cv .i64 (.op .shr .u64 (.op .and .u64 (.v 101) (.lit 281470681743360)) (.lit 32)))),(.s .i64 (.cv .i64 (.op .shr .u64 (.op .and .u64 (.v 102) (.lit 268435455)) (.lit 0)))),(.c (.cmp .eql (.cv .i64 (.op .shr .u64 (.op .and .u64 (.v 100) (.lit 32768)) (.lit 15))) (.lit 1))),(.c (.cmp .eql (.cv .i64 (.op .shr .u64 (.op .and .u64 (.v 100) (.lit 65536)) (.lit 16))) (.lit 1))),(.s .i64 (.cv .i64 (.op .shr .u64 (.op .and .u64 (.v 101) (.lit 18446462598732840960)) (.lit 48)))),(.s .i64 (.cv .i64 (.op .shr .u64 (.op .and .u64 (.v 103) (.lit 4294967295)) (.lit 0)))),(.s .i64 (.cv .i64 (.op .shr .u64 (.op .and .u64 (.v 100) (.lit 393216)) (.lit 17)))),(.s .i64 (.cv .i64 (.op .shr .u64 (.op .and .u64 (.v 103) (.lit 18446744069414584320)) (.lit 32)))),(.s .u64 (.v 104)),(.s .u64 (.v 105)),(.s .u64 (.v 106)),(.s .u64 (.v 107)),(.s .u64 (.v 108)),(.s .u64 (.v 109)),(.s .u64 (.v 110)),(.s .u64 (.v 111)),(.s .u64 (.v 112)),(.s .u64 (.v 113)),(.s .u64 (.v 114)),(.s .u64 (.v 115)),(.s .u64 (.v 116)),(.s .u64 (.v 117)),(.s .u64 (.v 118)),(.s .u64 (.v 119))]),(.one (.i .i64 0))]),[],20⟩]
theorem zni:zk mc24 24 ze znj=true:=by decide +kernel
def s34_1:List Sm:=[⟨[(.one (.i .i64 1))],[(1,100)],[],(.tup [(.one (.s .u64 (.v 100))),(.one (.i .i64 0))]),[],1⟩]
theorem zuP:zk zcU 34 ze s34_1=true:=by decide +kernel
def s34_2:List Sm:=[⟨[(.one (.i .i64 2))],[(2,100)],[],(.tup [(.one (.s .u64 (.v 100))),(.one (.i .i64 0))]),[],1⟩]
theorem zuO:zk zcU 34 ze s34_2=true:=by decide +kernel
def s34_4:List Sm:=[⟨[(.one (.i .i64 4))],[(4,100)],[],(.tup [(.one (.s .u64 (.v 100))),(.one (.i .i64 0))]),[],1⟩]
theorem zuN:zk zcU 34 ze s34_4=true:=by decide +kernel
def s34_8:List Sm:=[⟨[(.one (.i .i64 8))],[(8,100)],[],(.tup [(.one (.s .u64 (.v 100))),(.one (.i .i64 0))]),[],1⟩]
theorem zuM:zk zcU 34 ze s34_8=true:=by decide +kernel
def s34_17:List Sm:=[⟨[(.one (.i .i64 17))],[(17,100)],[],(.tup [(.one (.s .u64 (.v 100))),(.one (.i .i64 0))]),[],1⟩]
theorem zrl:zk zcU 34 ze s34_17=true:=by decide +kernel
def zp0:List Sm:=[zbU 265]
theorem zoV:zk zcU 34 ze zp0=true:=by decide +kernel
def znh:List Sm:=[zbU 1296]
theorem zng:zk zcU 34 ze znh=true:=by decide +kernel
def znf:List Sm:=[zbU 1297]
theorem zne:zk zcU 34 ze znf=true:=by decide +kernel
def znd:List Sm:=[zbU 1298]
theorem znc:zk zcU 34 ze znd=true:=by decide +kernel
def znb:List Sm:=[zbU 1299]
theorem zna:zk zcU 34 ze znb=true:=by decide +kernel
def zm9:List Sm:=[zbU 1300]
theorem zm8:zk zcU 34 ze zm9=true:=by decide +kernel
def zm7:List Sm:=[zbU 1301]
theorem zm6:zk zcU 34 ze zm7=true:=by decide +kernel
def zm5:List Sm:=[zbU 1302]
theorem zm4:zk zcU 34 ze zm5=true:=by decide +kernel
def zm3:List Sm:=[zbU 1303]
theorem zm2:zk zcU 34 ze zm3=true:=by decide +kernel
def s48_32:List Sm:=[tm48_1 32]
theorem zrk:zk zaB 48 ze s48_32=true:=by decide +kernel
def s48_36:List Sm:=[tm48_1 36]
theorem zrj:zk zaB 48 ze s48_36=true:=by decide +kernel
def s48_60:List Sm:=[jR 60]
theorem zri:zk zaB 48 ze s48_60=true:=by decide +kernel
def zm1:List Sm:=[tm48_3 1024,
 ⟨[(.one (.i .i64 1024)),(.agg [(.w .i64 10),(.w .i64 11),(.i .i64 3),(.w .i64 12),(.w .i64 13),(.i .i64 29),(.w .i64 14),(.w .i64 15),(.w .i64 16),(.w .i64 17),(.w .i64 18),(.w .i64 19),(.w .i64 20),(.w .i64 21)])],[],[((.cmp .eql (.v 10) (.lit 0)),false),((.cmp .eql (.v 10) (.lit 1)),false),((.cmp .eql (.v 10) (.lit 2)),true),((.cmp .eql (.v 10) (.lit 2)),true),((.cmp .eql (.v 12) (.lit 0)),true),((.cmp .eql (.v 14) (.lit 0)),true),((.cmp .eql (.v 15) (.lit 0)),true),((.cmp .eql (.v 16) (.lit 0)),true),((.cmp .eql (.v 17) (.lit 0)),true),((.cmp .eql (.v 18) (.lit 0)),true),((.cmp .lss (.v 11) (.lit 1024)),false),((.cmp .gtr (.v 11) (.lit 65535)),false),((.cmp .neq (.op .rem .i64 (.v 11) (.lit 32)) (.lit 0)),false),((.cmp .geq (.v 13) (.lit 0)),true),((.cmp .leq (.v 13) (.lit 536870911)),true),((.cmp .geq (.v 19) (.lit 0)),true),((.cmp .lss (.v 19) (.lit 65536)),true),((.cmp .eql (.op .rem .i64 (.v 19) (.lit 4)) (.lit 0)),true),((.cmp .geq (.v 20) (.lit 0)),true),((.cmp .lss (.v 20) (.lit 65536)),true),((.cmp .eql (.op .rem .i64 (.v 20) (.lit 4)) (.lit 0)),true),((.cmp .geq (.v 21) (.lit 0)),true),((.cmp .lss (.v 21) (.lit 65536)),true),((.cmp .neq (.op .shr .u64 (.op .shl .u64 (.cv .u64 (.v 11)) (.lit 4)) (.lit 4)) (.cv .u64 (.v 11))),false),((.cmp .neq (.op .andNot .u64 (.op .shl .u64 (.cv .u64 (.v 11)) (.lit 4)) (.lit 1048560)) (.lit 0)),false),((.cmp .neq (.op .shr .u64 (.op .shl .u64 (.cv .u64 (.v 19)) (.lit 0)) (.lit 0)) (.cv .u64 (.v 19))),false),((.cmp .neq (.op .andNot .u64 (.op .shl .u64 (.cv .u64 (.v 19)) (.lit 0)) (.lit 65535)) (.lit 0)),false),((.cmp .neq (.op .shr .u64 (.op .shl .u64 (.cv .u64 (.v 20)) (.lit 16)) (.lit 16)) (.cv .u64 (.v 20))),false),((.cmp .neq (.op .andNot .u64 (.op .shl .u64 (.cv .u64 (.v 20)) (.lit 16)) (.lit 4294901760)) (.lit 0)),false),((.cmp .neq (.op .shr .u64 (.op .shl .u64 (.cv .u64 (.v 21)) (.lit 32)) (.lit 32)) (.cv .u64 (.v 21))),false),((.cmp .neq (.op .andNot .u64 (.op .shl .u64 (.cv .u64 (.v 21)) (.lit 32)) (.lit 281470681743360)) (.lit 0)),false)],(.one (.one (.i .i64 0))),[(1024,(.s .u64 (.op .or .u64 (.op .andNot .u64 (.op .or .u64 (.op .andNot .u64 (.op .or .u64 (.op .andNot .u64 (.op .or .u64 (.op .andNot .u64 (.op .or .u64 (.op .andNot .u64 (.op .or .u64 (.lit 2) (.op .shl .u64 (.cv .u64 (.v 11)) (.lit 4))) (.lit 32505856)) (.lit 3145728)) (.lit 234881024)) (.lit 0)) (.lit 4026531840)) (.lit 0)) (.lit 270582939648)) (.lit 0)) (.lit 8521215115264)) (.lit 7971459301376)))),(1026,(.s .u64 (.op .or .u64 (.op .andNot .u64 (.op .or .u64 (.op .andNot .u64 (.op .or .u64 (.lit 0) (.op .shl .u64 (.cv .u64 (.v 19)) (.lit 0))) (.lit 4294901760)) (.op .shl .u64 (.cv .u64 (.v 20)) (.lit 16))) (.lit 281470681743360)) (.op .shl .u64 (.cv .u64 (.v 21)) (.lit 32))))),(1025,(.s .u64 (.cv .u64 (.op .add .i64 (.op .add .i64 (.lit 0) (.v 13)) (.lit 0))))),(1027,(.i .u64 0))],4⟩]
theorem zm0:zk zaB 48 ze zm1=true:=by decide +kernel
def zmZ:List Sm:=[tm48_3 1088,
 tm48_4 1088]
theorem zmY:zk zaB 48 ze zmZ=true:=by decide +kernel
def zmX:List Sm:=[jz 1156]
theorem zmW:zk zaB 48 ze zmX=true:=by decide +kernel
def zmV:List Sm:=[jN 1160,
 ⟨[(.one (.i .i64 1160)),(.agg [(.w .i64 10),(.w .i64 11),(.i .i64 9),(.w .i64 12),(.w .i64 13),(.i .i64 0),(.w .i64 14),(.w .i64 15),(.w .i64 16),(.w .i64 17),(.w .i64 18),(.w .i64 19),(.w .i64 20),(.w .i64 21)])],[],[((.cmp .eql (.v 10) (.lit 0)),false),((.cmp .eql (.v 10) (.lit 1)),true),((.cmp .eql (.v 10) (.lit 1)),true),((.cmp .eql (.v 13) (.lit 0)),true),((.cmp .eql (.v 14) (.lit 0)),true),((.cmp .eql (.v 15) (.lit 0)),true),((.cmp .eql (.v 16) (.lit 0)),true),((.cmp .eql (.v 17) (.lit 0)),true),((.cmp .eql (.v 18) (.lit 0)),true),((.cmp .lss (.v 11) (.lit 1024)),false),((.cmp .gtr (.v 11) (.lit 65535)),false),((.cmp .neq (.op .rem .i64 (.v 11) (.lit 512)) (.lit 0)),false),((.cmp .geq (.v 12) (.lit 0)),true),((.cmp .leq (.v 12) (.lit 512)),true),((.cmp .geq (.v 19) (.lit 0)),true),((.cmp .lss (.v 19) (.lit 65536)),true),((.cmp .eql (.op .rem .i64 (.v 19) (.lit 4)) (.lit 0)),true),((.cmp .geq (.v 20) (.lit 0)),true),((.cmp .lss (.v 20) (.lit 65536)),true),((.cmp .eql (.op .rem .i64 (.v 20) (.lit 4)) (.lit 0)),true),((.cmp .geq (.v 21) (.lit 0)),true),((.cmp .lss (.v 21) (.lit 65536)),true),((.cmp .neq (.op .shr .u64 (.op .shl .u64 (.cv .u64 (.v 11)) (.lit 4)) (.lit 4)) (.cv .u64 (.v 11))),false),((.cmp .neq (.op .andNot .u64 (.op .shl .u64 (.cv .u64 (.v 11)) (.lit 4)) (.lit 1048560)) (.lit 0)),false),((.cmp .neq (.op .shr .u64 (.op .shl .u64 (.cv .u64 (.v 19)) (.lit 0)) (.lit 0)) (.cv .u64 (.v 19))),false),((.cmp .neq (.op .andNot .u64 (.op .shl .u64 (.cv .u64 (.v 19)) (.lit 0)) (.lit 65535)) (.lit 0)),false),((.cmp .neq (.op .shr .u64 (.op .shl .u64 (.cv .u64 (.v 20)) (.lit 16)) (.lit 16)) (.cv .u64 (.v 20))),false),((.cmp .neq (.op .andNot .u64 (.op .shl .u64 (.cv .u64 (.v 20)) (.lit 16)) (.lit 4294901760)) (.lit 0)),false),((.cmp .neq (.op .shr .u64 (.op .shl .u64 (.cv .u64 (.v 21)) (.lit 32)) (.lit 32)) (.cv .u64 (.v 21))),false),((.cmp .neq (.op .andNot .u64 (.op .shl .u64 (.cv .u64 (.v 21)) (.lit 32)) (.lit 281470681743360)) (.lit 0)),false)],(.one (.one (.i .i64 0))),[(1160,(.s .u64 (.op .or .u64 (.op .andNot .u64 (.op .or .u64 (.op .andNot .u64 (.op .or .u64 (.op .andNot .u64 (.op .or .u64 (.op .andNot .u64 (.op .or .u64 (.op .andNot .u64 (.op .or .u64 (.lit 1) (.op .shl .u64 (.cv .u64 (.v 11)) (.lit 4))) (.lit 32505856)) (.lit 9437184)) (.lit 234881024)) (.lit 0)) (.lit 4026531840)) (.lit 0)) (.lit 270582939648)) (.lit 0)) (.lit 8521215115264)) (.lit 0)))),(1162,(.s .u64 (.op .or .u64 (.op .andNot .u64 (.op .or .u64 (.op .andNot .u64 (.op .or .u64 (.lit 0) (.op .shl .u64 (.cv .u64 (.v 19)) (.lit 0))) (.lit 4294901760)) (.op .shl .u64 (.cv .u64 (.v 20)) (.lit 16))) (.lit 281470681743360)) (.op .shl .u64 (.cv .u64 (.v 21)) (.lit 32))))),(1161,(.s .u64 (.cv .u64 (.op .add .i64 (.v 12) (.lit 0))))),(1163,(.i .u64 0))],4⟩]
theorem zmU:zk zaB 48 ze zmV=true:=by decide +kernel
def zmT:List Sm:=[tm48_4 1164]
theorem zmS:zk zaB 48 ze zmT=true:=by decide +kernel
def zmR:List Sm:=[jz 1220]
theorem zmQ:zk zaB 48 ze zmR=true:=by decide +kernel
def zmP:List Sm:=[jN 1224]
theorem zmO:zk zaB 48 ze zmP=true:=by decide +kernel
def zmN:List Sm:=[jz 1284]
theorem zmM:zk zaB 48 ze zmN=true:=by decide +kernel
def zmL:List Sm:=[jz 1288,
 zag 1288,
 jN 1288,
 zaf 1288,
 zae 1288,
 jp 1288,
 jR 1288,
 jo 1288,
 jn 1288]
theorem zmK:zk zaB 48 ze zmL=true:=by decide +kernel
def zmJ:List Sm:=[jz 1292,
 zag 1292,
 jN 1292,
 zaf 1292,
 zae 1292,
 jp 1292,
 jR 1292,
 jo 1292,
 jn 1292]
theorem zmI:zk zaB 48 ze zmJ=true:=by decide +kernel
def zmH:List Sm:=[jz 1296,
 zag 1296,
 jN 1296,
 zaf 1296,
 zae 1296,
 jp 1296,
 jR 1296,
 jo 1296,
 jn 1296]
theorem zmG:zk zaB 48 ze zmH=true:=by decide +kernel
def zmF:List Sm:=[jz 1300,
 zag 1300,
 jN 1300,
 zaf 1300,
 zae 1300,
 jp 1300,
 jR 1300,
 jo 1300,
 jn 1300]
theorem zmE:zk zaB 48 ze zmF=true:=by decide +kernel
def zmD:List Sm:=[jz 1304,
 zag 1304,
 jN 1304,
 zaf 1304,
 zae 1304,
 jp 1304,
 jR 1304,
 jo 1304,
 jn 1304]
theorem zmC:zk zaB 48 ze zmD=true:=by decide +kernel
def zmB:List Sm:=[jz 1308,
 zag 1308,
 jN 1308,
 zaf 1308,
 zae 1308,
 jp 1308,
 jR 1308,
 jo 1308,
 jn 1308]
theorem zmA:zk zaB 48 ze zmB=true:=by decide +kernel
def zmz:List Sm:=[jz 1312,
 zag 1312,
 jN 1312,
 zaf 1312,
 zae 1312,
 jp 1312,
 jR 1312,
 jo 1312,
 jn 1312]
theorem zmy:zk zaB 48 ze zmz=true:=by decide +kernel
def zmx:List Sm:=[jz 1316,
 zag 1316,
 jN 1316,
 zaf 1316,
 zae 1316,
 jp 1316,
 jR 1316,
 jo 1316,
 jn 1316]
theorem zmw:zk zaB 48 ze zmx=true:=by decide +kernel
def zmv:List Sm:=[jz 1320,
 zag 1320,
 jN 1320,
 zaf 1320,
 zae 1320,
 jp 1320,
 jR 1320,
 jo 1320,
 jn 1320]
theorem zmu:zk zaB 48 ze zmv=true:=by decide +kernel
def zmt:List Sm:=[jz 1324,
 zag 1324,
 jN 1324,
 zaf 1324,
 zae 1324,
 jp 1324,
 jR 1324,
 jo 1324,
 jn 1324]
theorem zms:zk zaB 48 ze zmt=true:=by decide +kernel
def zmr:List Sm:=[jz 1328,
 zag 1328,
 jN 1328,
 zaf 1328,
 zae 1328,
 jp 1328,
 jR 1328,
 jo 1328,
 jn 1328]
theorem zmq:zk zaB 48 ze zmr=true:=by decide +kernel
def zmp:List Sm:=[jz 1332,
 zag 1332,
 jN 1332,
 zaf 1332,
 zae 1332,
 jp 1332,
 jR 1332,
 jo 1332,
 jn 1332]
theorem zmo:zk zaB 48 ze zmp=true:=by decide +kernel
def zmn:List Sm:=[jz 1336,
 zag 1336,
 jN 1336,
 zaf 1336,
 zae 1336,
 jp 1336,
 jR 1336,
 jo 1336,
 jn 1336]
theorem zmm:zk zaB 48 ze zmn=true:=by decide +kernel
def zml:List Sm:=[jz 1340,
 zag 1340,
 jN 1340,
 zaf 1340,
 zae 1340,
 jp 1340,
 jR 1340,
 jo 1340,
 jn 1340]
theorem zmk:zk zaB 48 ze zml=true:=by decide +kernel
def zmj:List Sm:=[jz 1344,
 zag 1344,
 jN 1344,
 zaf 1344,
 zae 1344,
 jp 1344,
 jR 1344,
 jo 1344,
 jn 1344]
theorem zmi:zk zaB 48 ze zmj=true:=by decide +kernel
def zmh:List Sm:=[jz 1348,
 zag 1348,
 jN 1348,
 zaf 1348,
 zae 1348,
 jp 1348,
 jR 1348,
 jo 1348,
 jn 1348]
theorem zmg:zk zaB 48 ze zmh=true:=by decide +kernel
def zmf:List Sm:=[⟨[(.one (.i .i64 1024)),(.agg [(.w .i64 10),(.w .i64 11),(.w .i64 12),(.b false),(.w .i64 13),(.w .i64 14),(.w .i64 15),(.w .i64 16),(.b false),(.b false),(.w .i64 17),(.w .i64 18),(.w .i64 19),(.w .i64 20),(.w .u64 21),(.w .u64 22),(.w .u64 23),(.w .u64 24),(.w .u64 25),(.w .u64 26),(.w .u64 27),(.w .u64 28),(.w .u64 29),(.w .u64 30),(.w .u64 31),(.w .u64 32),(.w .u64 33),(.w .u64 34),(.w .u64 35),(.w .u64 36)])],[],[((.cmp .lss (.v 10) (.lit 0)),false),((.cmp .lss (.v 11) (.lit 0)),false),((.cmp .lss (.v 12) (.lit 0)),false),((.cmp .lss (.v 19) (.lit 0)),false),((.cmp .neq (.op .shr .u64 (.op .shl .u64 (.cv .u64 (.v 10)) (.lit 0)) (.lit 0)) (.cv .u64 (.v 10))),false),((.cmp .neq (.op .andNot .u64 (.op .shl .u64 (.cv .u64 (.v 10)) (.lit 0)) (.lit 7)) (.lit 0)),false),((.cmp .neq (.op .shr .u64 (.op .shl .u64 (.cv .u64 (.v 11)) (.lit 3)) (.lit 3)) (.cv .u64 (.v 11))),false),((.cmp .neq (.op .andNot .u64 (.op .shl .u64 (.cv .u64 (.v 11)) (.lit 3)) (.lit 2040)) (.lit 0)),false),((.cmp .neq (.op .shr .u64 (.op .shl .u64 (.cv .u64 (.v 12)) (.lit 11)) (.lit 11)) (.cv .u64 (.v 12))),false),((.cmp .neq (.op .andNot .u64 (.op .shl .u64 (.cv .u64 (.v 12)) (.lit 11)) (.lit 14336)) (.lit 0)),false),((.cmp .neq (.op .shr .u64 (.op .shl .u64 (.cv .u64 (.v 19)) (.lit 17)) (.lit 17)) (.cv .u64 (.v 19))),false),((.cmp .neq (.op .andNot .u64 (.op .shl .u64 (.cv .u64 (.v 19)) (.lit 17)) (.lit 393216)) (.lit 0)),false),((.cmp .lss (.v 13) (.lit 0)),false),((.cmp .lss (.v 14) (.lit 0)),false),((.cmp .lss (.v 15) (.lit 0)),false),((.cmp .lss (.v 17) (.lit 0)),false),((.cmp .neq (.op .shr .u64 (.op .shl .u64 (.cv .u64 (.v 13)) (.lit 0)) (.lit 0)) (.cv .u64 (.v 13))),false),((.cmp .neq (.op .andNot .u64 (.op .shl .u64 (.cv .u64 (.v 13)) (.lit 0)) (.lit 65535)) (.lit 0)),false),((.cmp .neq (.op .shr .u64 (.op .shl .u64 (.cv .u64 (.v 14)) (.lit 16)) (.lit 16)) (.cv .u64 (.v 14))),false),((.cmp .neq (.op .andNot .u64 (.op .shl .u64 (.cv .u64 (.v 14)) (.lit 16)) (.lit 4294901760)) (.lit 0)),false),((.cmp .neq (.op .shr .u64 (.op .shl .u64 (.cv .u64 (.v 15)) (.lit 32)) (.lit 32)) (.cv .u64 (.v 15))),false),((.cmp .neq (.op .andNot .u64 (.op .shl .u64 (.cv .u64 (.v 15)) (.lit 32)) (.lit 281470681743360)) (.lit 0)),false),((.cmp .neq (.op .shr .u64 (.op .shl .u64 (.cv .u64 (.v 17)) (.lit 48)) (.lit 48)) (.cv .u64 (.v 17))),false),((.cmp .neq (.op .andNot .u64 (.op .shl .u64 (.cv .u64 (.v 17)) (.lit 48)) (.lit 18446462598732840960)) (.lit 0)),false),((.cmp .lss (.v 16) (.lit 0)),false),((.cmp .neq (.op .shr .u64 (.op .shl .u64 (.cv .u64 (.v 16)) (.lit 0)) (.lit 0)) (.cv .u64 (.v 16))),false),((.cmp .neq (.op .andNot .u64 (.op .shl .u64 (.cv .u64 (.v 16)) (.lit 0)) (.lit 268435455)) (.lit 0)),false),((.cmp .lss (.v 18) (.lit 0)),false),((.cmp .lss (.v 20) (.lit 0)),false),((.cmp .neq (.op .shr .u64 (.op .shl .u64 (.cv .u64 (.v 18)) (.lit 0)) (.lit 0)) (.cv .u64 (.v 18))),false),((.cmp .neq (.op .andNot .u64 (.op .shl .u64 (.cv .u64 (.v 18)) (.lit 0)) (.lit 4294967295)) (.lit 0)),false),((.cmp .neq (.op .shr .u64 (.op .shl .u64 (.cv .u64 (.v 20)) (.lit 32)) (.lit 32)) (.cv .u64 (.v 20))),false),((.cmp .neq (.op .andNot .u64 (.op .shl .u64 (.cv .u64 (.v 20)) (.lit 32)) (.lit 18446744069414584320)) (.lit 0)),false),((.cmp .leq (.v 10) (.lit 5)),true),((.cmp .leq (.v 12) (.lit 5)),true)],(.one (.one (.i .i64 0))),[(1056,(.s .u64 (.v 21))),(1040,(.s .u64 (.op .or .u64 (.op .andNot .u64 (.op .or .u64 (.op .andNot .u64 (.op .or .u64 (.op .andNot .u64 (.op .or .u64 (.op .andNot .u64 (.op .or .u64 (.op .andNot .u64 (.op .or .u64 (.op .andNot .u64 (.op .or .u64 (.lit 0) (.op .shl .u64 (.cv .u64 (.v 10)) (.lit 0))) (.lit 2040)) (.op .shl .u64 (.cv .u64 (.v 11)) (.lit 3))) (.lit 14336)) (.op .shl .u64 (.cv .u64 (.v 12)) (.lit 11))) (.lit 16384)) (.lit 0)) (.lit 32768)) (.lit 0)) (.lit 65536)) (.lit 0)) (.lit 393216)) (.op .shl .u64 (.cv .u64 (.v 19)) (.lit 17))))),(1064,(.s .u64 (.v 29))),(1060,(.s .u64 (.v 25))),(1068,(.s .u64 (.v 33))),(1058,(.s .u64 (.v 23))),(1042,(.s .u64 (.op .or .u64 (.lit 0) (.op .shl .u64 (.cv .u64 (.v 16)) (.lit 0))))),(1066,(.s .u64 (.v 31))),(1062,(.s .u64 (.v 27))),(1070,(.s .u64 (.v 35))),(1057,(.s .u64 (.v 22))),(1041,(.s .u64 (.op .or .u64 (.op .andNot .u64 (.op .or .u64 (.op .andNot .u64 (.op .or .u64 (.op .andNot .u64 (.op .or .u64 (.lit 0) (.op .shl .u64 (.cv .u64 (.v 13)) (.lit 0))) (.lit 4294901760)) (.op .shl .u64 (.cv .u64 (.v 14)) (.lit 16))) (.lit 281470681743360)) (.op .shl .u64 (.cv .u64 (.v 15)) (.lit 32))) (.lit 18446462598732840960)) (.op .shl .u64 (.cv .u64 (.v 17)) (.lit 48))))),(1065,(.s .u64 (.v 30))),(1061,(.s .u64 (.v 26))),(1069,(.s .u64 (.v 34))),(1059,(.s .u64 (.v 24))),(1043,(.s .u64 (.op .or .u64 (.op .andNot .u64 (.op .or .u64 (.lit 0) (.op .shl .u64 (.cv .u64 (.v 18)) (.lit 0))) (.lit 18446744069414584320)) (.op .shl .u64 (.cv .u64 (.v 20)) (.lit 32))))),(1067,(.s .u64 (.v 32))),(1063,(.s .u64 (.v 28))),(1071,(.s .u64 (.v 36)))],20⟩,
 ⟨[(.one (.i .i64 1024)),(.agg [(.w .i64 10),(.w .i64 11),(.w .i64 12),(.b true),(.w .i64 13),(.w .i64 14),(.w .i64 15),(.w .i64 16),(.b false),(.b false),(.w .i64 17),(.w .i64 18),(.w .i64 19),(.w .i64 20),(.w .u64 21),(.w .u64 22),(.w .u64 23),(.w .u64 24),(.w .u64 25),(.w .u64 26),(.w .u64 27),(.w .u64 28),(.w .u64 29),(.w .u64 30),(.w .u64 31),(.w .u64 32),(.w .u64 33),(.w .u64 34),(.w .u64 35),(.w .u64 36)])],[],[((.cmp .lss (.v 10) (.lit 0)),false),((.cmp .lss (.v 11) (.lit 0)),false),((.cmp .lss (.v 12) (.lit 0)),false),((.cmp .lss (.v 19) (.lit 0)),false),((.cmp .neq (.op .shr .u64 (.op .shl .u64 (.cv .u64 (.v 10)) (.lit 0)) (.lit 0)) (.cv .u64 (.v 10))),false),((.cmp .neq (.op .andNot .u64 (.op .shl .u64 (.cv .u64 (.v 10)) (.lit 0)) (.lit 7)) (.lit 0)),false),((.cmp .neq (.op .shr .u64 (.op .shl .u64 (.cv .u64 (.v 11)) (.lit 3)) (.lit 3)) (.cv .u64 (.v 11))),false),((.cmp .neq (.op .andNot .u64 (.op .shl .u64 (.cv .u64 (.v 11)) (.lit 3)) (.lit 2040)) (.lit 0)),false),((.cmp .neq (.op .shr .u64 (.op .shl .u64 (.cv .u64 (.v 12)) (.lit 11)) (.lit 11)) (.cv .u64 (.v 12))),false),((.cmp .neq (.op .andNot .u64 (.op .shl .u64 (.cv .u64 (.v 12)) (.lit 11)) (.lit 14336)) (.lit 0)),false),((.cmp .neq (.op .shr .u64 (.op .shl .u64 (.cv .u64 (.v 19)) (.lit 17)) (.lit 17)) (.cv .u64 (.v 19))),false),((.cmp .neq (.op .andNot .u64 (.op .shl .u64 (.cv .u64 (.v 19)) (.lit 17)) (.lit 393216)) (.lit 0)),false),((.cmp .lss (.v 13) (.lit 0)),false),((.cmp .lss (.v 14) (.lit 0)),false),((.cmp .lss (.v 15) (.lit 0)),false),((.cmp .lss (.v 17) (.lit 0)),false),((.cmp .neq (.op .shr .u64 (.op .shl .u64 (.cv .u64 (.v 13)) (.lit 0)) (.lit 0)) (.cv .u64 (.v 13))),false),((.cmp .neq (.op .andNot .u64 (.op .shl .u64 (.cv .u64 (.v 13)) (.lit 0)) (.lit 65535)) (.lit 0)),false),((.cmp .neq (.op .shr .u64 (.op .shl .u64 (.cv .u64 (.v 14)) (.lit 16)) (.lit 16)) (.cv .u64 (.v 14))),false),((.cmp .neq (.op .andNot .u64 (.op .shl .u64 (.cv .u64 (.v 14)) (.lit 16)) (.lit 4294901760)) (.lit 0)),false),((.cmp .neq (.op .shr .u64 (.op .shl .u64 (.cv .u64 (.v 15)) (.lit 32)) (.lit 32)) (.cv .u64 (.v 15))),false),((.cmp .neq (.op .andNot .u64 (.op .shl .u64 (.cv .u64 (.v 15)) (.lit 32)) (.lit 281470681743360)) (.lit 0)),false),((.cmp .neq (.op .shr .u64 (.op .shl .u64 (.cv .u64 (.v 17)) (.lit 48)) (.lit 48)) (.cv .u64 (.v 17))),false),((.cmp .neq (.op .andNot .u64 (.op .shl .u64 (.cv .u64 (.v 17)) (.lit 48)) (.lit 18446462598732840960)) (.lit 0)),false),((.cmp .lss (.v 16) (.lit 0)),false),((.cmp .neq (.op .shr .u64 (.op .shl .u64 (.cv .u64 (.v 16)) (.lit 0)) (.lit 0)) (.cv .u64 (.v 16))),false),((.cmp .neq (.op .andNot .u64 (.op .shl .u64 (.cv .u64 (.v 16)) (.lit 0)) (.lit 268435455)) (.lit 0)),false),((.cmp .lss (.v 18) (.lit 0)),false),((.cmp .lss (.v 20) (.lit 0)),false),((.cmp .neq (.op .shr .u64 (.op .shl .u64 (.cv .u64 (.v 18)) (.lit 0)) (.lit 0)) (.cv .u64 (.v 18))),false),((.cmp .neq (.op .andNot .u64 (.op .shl .u64 (.cv .u64 (.v 18)) (.lit 0)) (.lit 4294967295)) (.lit 0)),false),((.cmp .neq (.op .shr .u64 (.op .shl .u64 (.cv .u64 (.v 20)) (.lit 32)) (.lit 32)) (.cv .u64 (.v 20))),false),((.cmp .neq (.op .andNot .u64 (.op .shl .u64 (.cv .u64 (.v 20)) (.lit 32)) (.lit 18446744069414584320)) (.lit 0)),false),((.cmp .leq (.v 10) (.lit 5)),true),((.cmp .leq (.v 12) (.lit 5)),true)],(.one (.one (.i .i64 0))),[(1056,(.s .u64 (.v 21))),(1040,(.s .u64 (.op .or .u64 (.op .andNot .u64 (.op .or .u64 (.op .andNot .u64 (.op .or .u64 (.op .andNot .u64 (.op .or .u64 (.op .andNot .u64 (.op .or .u64 (.op .andNot .u64 (.op .or .u64 (.op .andNot .u64 (.op .or .u64 (.lit 0) (.op .shl .u64 (.cv .u64 (.v 10)) (.lit 0))) (.lit 2040)) (.op .shl .u64 (.cv .u64 (.v 11)) (.lit 3))) (.lit 14336)) (.op .shl .u64 (.cv .u64 (.v 12)) (.lit 11))) (.lit 16384)) (.lit 16384)) (.lit 32768)) (.lit 0)) (.lit 65536)) (.lit 0)) (.lit 393216)) (.op .shl .u64 (.cv .u64 (.v 19)) (.lit 17))))),(1064,(.s .u64 (.v 29))),(1060,(.s .u64 (.v 25))),(1068,(.s .u64 (.v 33))),(1058,(.s .u64 (.v 23))),(1042,(.s .u64 (.op .or .u64 (.lit 0) (.op .shl .u64 (.cv .u64 (.v 16)) (.lit 0))))),(1066,(.s .u64 (.v 31))),(1062,(.s .u64 (.v 27))),(1070,(.s .u64 (.v 35))),(1057,(.s .u64 (.v 22))),(1041,(.s .u64 (.op .or .u64 (.op .andNot .u64 (.op .or .u64 (.op .andNot .u64 (.op .or .u64 (.op .andNot .u64 (.op .or .u64 (.lit 0) (.op .shl .u64 (.cv .u64 (.v 13)) (.lit 0))) (.lit 4294901760)) (.op .shl .u64 (.cv .u64 (.v 14)) (.lit 16))) (.lit 281470681743360)) (.op .shl .u64 (.cv .u64 (.v 15)) (.lit 32))) (.lit 18446462598732840960)) (.op .shl .u64 (.cv .u64 (.v 17)) (.lit 48))))),(1065,(.s .u64 (.v 30))),(1061,(.s .u64 (.v 26))),(1069,(.s .u64 (.v 34))),(1059,(.s .u64 (.v 24))),(1043,(.s .u64 (.op .or .u64 (.op .andNot .u64 (.op .or .u64 (.lit 0) (.op .shl .u64 (.cv .u64 (.v 18)) (.lit 0))) (.lit 18446744069414584320)) (.op .shl .u64 (.cv .u64 (.v 20)) (.lit 32))))),(1067,(.s .u64 (.v 32))),(1063,(.s .u64 (.v 28))),(1071,(.s .u64 (.v 36)))],20⟩]
theorem zme:zk mc52 52 ze zmf=true:=by decide +kernel
end Go.Ev.X
end
