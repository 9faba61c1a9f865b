import Derived.Test.YtcohamkngfehlaaGreatDoorSD0
set_option linter.unusedSimpArgs false
set_option linter.unusedVariables false
set_option maxRecDepth 100000
noncomputable section
namespace Go.Ev.X
open Go Go.Ev
def zkd:List Sm:=[⟨[(.one (.i .i64 1024))],[(1040,100),(1041,101),(1042,102),(1043,103),(1056,104),(1057,105),(1058,106),(1059,107),(1060,108),(1061,109),(1062,110),(1063,111),(1064,112),(1065,113),(1066,114),(1067,115),(1068,116),(1069,117),(1070,118),(1071,119)],[((.cmp .neq (.op .shr .u64 (.v 100) (.lit 19)) (.lit 0)),false),((.cmp .neq (.op .shr .u64 (.v 101) (.lit 64)) (.lit 0)),false),((.cmp .neq (.op .shr .u64 (.v 102) (.lit 28)) (.lit 0)),false),((.cmp .neq (.op .shr .u64 (.v 103) (.lit 64)) (.lit 0)),false),((.cmp .gtr (.cv .i64 (.op .shr .u64 (.op .and .u64 (.v 100) (.lit 7)) (.lit 0))) (.lit 5)),false),((.cmp .gtr (.cv .i64 (.op .shr .u64 (.op .and .u64 (.v 100) (.lit 14336)) (.lit 11))) (.lit 5)),false)],(.tup [(.agg [(.s .i64 (.cv .i64 (.op .shr .u64 (.op .and .u64 (.v 100) (.lit 7)) (.lit 0)))),(.s .i64 (.cv .i64 (.op .shr .u64 (.op .and .u64 (.v 100) (.lit 2040)) (.lit 3)))),(.s .i64 (.cv .i64 (.op .shr .u64 (.op .and .u64 (.v 100) (.lit 14336)) (.lit 11)))),(.c (.cmp .eql (.cv .i64 (.op .shr .u64 (.op .and .u64 (.v 100) (.lit 16384)) (.lit 14))) (.lit 1))),(.s .i64 (.cv .i64 (.op .shr .u64 (.op .and .u64 (.v 101) (.lit 65535)) (.lit 0)))),(.s .i64 (.cv .i64 (.op .shr .u64 (.op .and .u64 (.v 101) (.lit 4294901760)) (.lit 16)))),(.s .i64 (.cv .i64 (.op .shr .u64 (.op .and .u64 (.v 101) (.lit 281470681743360)) (.lit 32)))),(.s .i64 (.cv .i64 (.op .shr .u64 (.op .and .u64 (.v 102) (.lit 268435455)) (.lit 0)))),(.c (.cmp .eql (.cv .i64 (.op .shr .u64 (.op .and .u64 (.v 100) (.lit 32768)) (.lit 15))) (.lit 1))),(.c (.cmp .eql (.cv .i64 (.op .shr .u64 (.op .and .u64 (.v 100) (.lit 65536)) (.lit 16))) (.lit 1))),(.s .i64 (.cv .i64 (.op .shr .u64 (.op .and .u64 (.v 101) (.lit 18446462598732840960)) (.lit 48)))),(.s .i64 (.cv .i64 (.op .shr .u64 (.op .and .u64 (.v 103) (.lit 4294967295)) (.lit 0)))),(.s .i64 (.cv .i64 (.op .shr .u64 (.op .and .u64 (.v 100) (.lit 393216)) (.lit 17)))),(.s .i64 (.cv .i64 (.op .shr .u64 (.op .and .u64 (.v 103) (.lit 18446744069414584320)) (.lit 32)))),(.s .u64 (.v 104)),(.s .u64 (.v 105)),(.s .u64 (.v 106)),(.s .u64 (.v 107)),(.s .u64 (.v 108)),(.s .u64 (.v 109)),(.s .u64 (.v 110)),(.s .u64 (.v 111)),(.s .u64 (.v 112)),(.s .u64 (.v 113)),(.s .u64 (.v 114)),(.s .u64 (.v 115)),(.s .u64 (.v 116)),(.s .u64 (.v 117)),(.s .u64 (.v 118)),(.s .u64 (.v 119))]),(.one (.i .i64 0))]),[],20⟩]
theorem zkc:zl mc15 15 zd zkd=true:=by decide +kernel
def zkb:List Sm:=[⟨[(.one (.i .i64 1088))],[(1104,100),(1105,101),(1106,102),(1107,103),(1120,104),(1121,105),(1122,106),(1123,107),(1124,108),(1125,109),(1126,110),(1127,111),(1128,112),(1129,113),(1130,114),(1131,115),(1132,116),(1133,117),(1134,118),(1135,119)],[((.cmp .neq (.op .shr .u64 (.v 100) (.lit 19)) (.lit 0)),false),((.cmp .neq (.op .shr .u64 (.v 101) (.lit 64)) (.lit 0)),false),((.cmp .neq (.op .shr .u64 (.v 102) (.lit 28)) (.lit 0)),false),((.cmp .neq (.op .shr .u64 (.v 103) (.lit 64)) (.lit 0)),false),((.cmp .gtr (.cv .i64 (.op .shr .u64 (.op .and .u64 (.v 100) (.lit 7)) (.lit 0))) (.lit 5)),false),((.cmp .gtr (.cv .i64 (.op .shr .u64 (.op .and .u64 (.v 100) (.lit 14336)) (.lit 11))) (.lit 5)),false)],(.tup [(.agg [(.s .i64 (.cv .i64 (.op .shr .u64 (.op .and .u64 (.v 100) (.lit 7)) (.lit 0)))),(.s .i64 (.cv .i64 (.op .shr .u64 (.op .and .u64 (.v 100) (.lit 2040)) (.lit 3)))),(.s .i64 (.cv .i64 (.op .shr .u64 (.op .and .u64 (.v 100) (.lit 14336)) (.lit 11)))),(.c (.cmp .eql (.cv .i64 (.op .shr .u64 (.op .and .u64 (.v 100) (.lit 16384)) (.lit 14))) (.lit 1))),(.s .i64 (.cv .i64 (.op .shr .u64 (.op .and .u64 (.v 101) (.lit 65535)) (.lit 0)))),(.s .i64 (.cv .i64 (.op .shr .u64 (.op .and .u64 (.v 101) (.lit 4294901760)) (.lit 16)))),(.s .i64 (.cv .i64 (.op .shr .u64 (.op .and .u64 (.v 101) (.lit 281470681743360)) (.lit 32)))),(.s .i64 (.cv .i64 (.op .shr .u64 (.op .and .u64 (.v 102) (.lit 268435455)) (.lit 0)))),(.c (.cmp .eql (.cv .i64 (.op .shr .u64 (.op .and .u64 (.v 100) (.lit 32768)) (.lit 15))) (.lit 1))),(.c (.cmp .eql (.cv .i64 (.op .shr .u64 (.op .and .u64 (.v 100) (.lit 65536)) (.lit 16))) (.lit 1))),(.s .i64 (.cv .i64 (.op .shr .u64 (.op .and .u64 (.v 101) (.lit 18446462598732840960)) (.lit 48)))),(.s .i64 (.cv .i64 (.op .shr .u64 (.op .and .u64 (.v 103) (.lit 4294967295)) (.lit 0)))),(.s .i64 (.cv .i64 (.op .shr .u64 (.op .and .u64 (.v 100) (.lit 393216)) (.lit 17)))),(.s .i64 (.cv .i64 (.op .shr .u64 (.op .and .u64 (.v 103) (.lit 18446744069414584320)) (.lit 32)))),(.s .u64 (.v 104)),(.s .u64 (.v 105)),(.s .u64 (.v 106)),(.s .u64 (.v 107)),(.s .u64 (.v 108)),(.s .u64 (.v 109)),(.s .u64 (.v 110)),(.s .u64 (.v 111)),(.s .u64 (.v 112)),(.s .u64 (.v 113)),(.s .u64 (.v 114)),(.s .u64 (.v 115)),(.s .u64 (.v 116)),(.s .u64 (.v 117)),(.s .u64 (.v 118)),(.s .u64 (.v 119))]),(.one (.i .i64 0))]),[],20⟩]
theorem zka:zl mc15 15 zd zkb=true:=by decide +kernel
def s37_1:List Sm:=[⟨[(.one (.i .i64 1))],[(1,100)],[],(.tup [(.one (.s .u64 (.v 100))),(.one (.i .i64 0))]),[],1⟩]
theorem zpL:zl zaE 37 zd s37_1=true:=by decide +kernel
def s37_2:List Sm:=[⟨[(.one (.i .i64 2))],[(2,100)],[],(.tup [(.one (.s .u64 (.v 100))),(.one (.i .i64 0))]),[],1⟩]
theorem zpK:zl zaE 37 zd s37_2=true:=by decide +kernel
def s37_4:List Sm:=[⟨[(.one (.i .i64 4))],[(4,100)],[],(.tup [(.one (.s .u64 (.v 100))),(.one (.i .i64 0))]),[],1⟩]
theorem zpJ:zl zaE 37 zd s37_4=true:=by decide +kernel
def s37_8:List Sm:=[⟨[(.one (.i .i64 8))],[(8,100)],[],(.tup [(.one (.s .u64 (.v 100))),(.one (.i .i64 0))]),[],1⟩]
theorem zpI:zl zaE 37 zd s37_8=true:=by decide +kernel
def s37_17:List Sm:=[⟨[(.one (.i .i64 17))],[(17,100)],[],(.tup [(.one (.s .u64 (.v 100))),(.one (.i .i64 0))]),[],1⟩]
theorem znW:zl zaE 37 zd s37_17=true:=by decide +kernel
def zmC:List Sm:=[jU 259]
theorem zlF:zl zaE 37 zd zmC=true:=by decide +kernel
def zmB:List Sm:=[jU 265]
theorem zlE:zl zaE 37 zd zmB=true:=by decide +kernel
def zj9:List Sm:=[jU 1152]
theorem zj8:zl zaE 37 zd zj9=true:=by decide +kernel
def zj7:List Sm:=[jU 1160]
theorem zj6:zl zaE 37 zd zj7=true:=by decide +kernel
def zj5:List Sm:=[jU 1168]
theorem zj4:zl zaE 37 zd zj5=true:=by decide +kernel
def zj3:List Sm:=[jU 1176]
theorem zj2:zl zaE 37 zd zj3=true:=by decide +kernel
def zj1:List Sm:=[jU 1191]
theorem zj0:zl zaE 37 zd zj1=true:=by decide +kernel
def zjZ:List Sm:=[jU 1296]
theorem zjY:zl zaE 37 zd zjZ=true:=by decide +kernel
def zjX:List Sm:=[jU 1297]
theorem zjW:zl zaE 37 zd zjX=true:=by decide +kernel
def zjV:List Sm:=[jU 1298]
theorem zjU:zl zaE 37 zd zjV=true:=by decide +kernel
def zjT:List Sm:=[jU 1299]
theorem zjS:zl zaE 37 zd zjT=true:=by decide +kernel
def zjR:List Sm:=[jU 1300]
theorem zjQ:zl zaE 37 zd zjR=true:=by decide +kernel
def zjP:List Sm:=[jU 1301]
theorem zjO:zl zaE 37 zd zjP=true:=by decide +kernel
def zjN:List Sm:=[jU 1302]
theorem zjM:zl zaE 37 zd zjN=true:=by decide +kernel
def zjL:List Sm:=[jU 1303]
theorem zjK:zl zaE 37 zd zjL=true:=by decide +kernel
def s48_32:List Sm:=[tm48_1 32]
theorem znV:zl zaS 48 zd s48_32=true:=by decide +kernel
def s48_36:List Sm:=[tm48_1 36]
theorem znU:zl zaS 48 zd s48_36=true:=by decide +kernel
def s48_60:List Sm:=[⟨[(.one (.i .i64 60)),(.agg [(.w .i64 10),(.w .i64 11),(.i .i64 0),(.w .i64 12),(.w .i64 13),(.i .i64 0),(.w .i64 14),(.w .i64 15),(.w .i64 16),(.w .i64 17),(.w .i64 18),(.w .i64 19),(.w .i64 20),(.w .i64 21)])],[],[((.cmp .eql (.v 10) (.lit 0)),false),((.cmp .eql (.v 10) (.lit 1)),false),((.cmp .eql (.v 10) (.lit 2)),false),((.cmp .eql (.v 10) (.lit 10)),false),((.cmp .eql (.v 10) (.lit 3)),false),((.cmp .eql (.v 10) (.lit 9)),false),((.cmp .eql (.v 10) (.lit 4)),false),((.cmp .eql (.v 10) (.lit 5)),false),((.cmp .eql (.v 10) (.lit 6)),false),((.cmp .eql (.v 10) (.lit 7)),true),((.cmp .eql (.v 10) (.lit 7)),true),((.cmp .eql (.v 12) (.lit 0)),true),((.cmp .eql (.v 13) (.lit 0)),true),((.cmp .eql (.v 14) (.lit 0)),true),((.cmp .eql (.v 15) (.lit 0)),true),((.cmp .eql (.v 17) (.lit 0)),true),((.cmp .eql (.v 18) (.lit 0)),true),((.cmp .lss (.v 11) (.lit 1024)),false),((.cmp .gtr (.v 11) (.lit 65535)),false),((.cmp .neq (.op .rem .i64 (.v 11) (.lit 8)) (.lit 0)),false),((.cmp .geq (.v 16) (.lit 0)),true),((.cmp .leq (.v 16) (.lit 63)),true),((.cmp .eql (.op .rem .i64 (.v 16) (.lit 8)) (.lit 0)),true),((.cmp .geq (.v 19) (.lit 0)),true),((.cmp .lss (.v 19) (.lit 65536)),true),((.cmp .eql (.op .rem .i64 (.v 19) (.lit 4)) (.lit 0)),true),((.cmp .geq (.v 20) (.lit 0)),true),((.cmp .lss (.v 20) (.lit 65536)),true),((.cmp .eql (.op .rem .i64 (.v 20) (.lit 4)) (.lit 0)),true),((.cmp .geq (.v 21) (.lit 0)),true),((.cmp .lss (.v 21) (.lit 65536)),true),((.cmp .neq (.op .shr .u64 (.op .shl .u64 (.cv .u64 (.v 11)) (.lit 4)) (.lit 4)) (.cv .u64 (.v 11))),false),((.cmp .neq (.op .andNot .u64 (.op .shl .u64 (.cv .u64 (.v 11)) (.lit 4)) (.lit 1048560)) (.lit 0)),false),((.cmp .neq (.op .shr .u64 (.op .shl .u64 (.cv .u64 (.v 16)) (.lit 32)) (.lit 32)) (.cv .u64 (.v 16))),false),((.cmp .neq (.op .andNot .u64 (.op .shl .u64 (.cv .u64 (.v 16)) (.lit 32)) (.lit 270582939648)) (.lit 0)),false),((.cmp .neq (.op .shr .u64 (.op .shl .u64 (.cv .u64 (.v 19)) (.lit 0)) (.lit 0)) (.cv .u64 (.v 19))),false),((.cmp .neq (.op .andNot .u64 (.op .shl .u64 (.cv .u64 (.v 19)) (.lit 0)) (.lit 65535)) (.lit 0)),false),((.cmp .neq (.op .shr .u64 (.op .shl .u64 (.cv .u64 (.v 20)) (.lit 16)) (.lit 16)) (.cv .u64 (.v 20))),false),((.cmp .neq (.op .andNot .u64 (.op .shl .u64 (.cv .u64 (.v 20)) (.lit 16)) (.lit 4294901760)) (.lit 0)),false),((.cmp .neq (.op .shr .u64 (.op .shl .u64 (.cv .u64 (.v 21)) (.lit 32)) (.lit 32)) (.cv .u64 (.v 21))),false),((.cmp .neq (.op .andNot .u64 (.op .shl .u64 (.cv .u64 (.v 21)) (.lit 32)) (.lit 281470681743360)) (.lit 0)),false)],(.one (.one (.i .i64 0))),[(60,(.s .u64 (.op .or .u64 (.op .andNot .u64 (.op .or .u64 (.op .andNot .u64 (.op .or .u64 (.op .andNot .u64 (.op .or .u64 (.op .andNot .u64 (.op .or .u64 (.op .andNot .u64 (.op .or .u64 (.lit 7) (.op .shl .u64 (.cv .u64 (.v 11)) (.lit 4))) (.lit 32505856)) (.lit 0)) (.lit 234881024)) (.lit 0)) (.lit 4026531840)) (.lit 0)) (.lit 270582939648)) (.op .shl .u64 (.cv .u64 (.v 16)) (.lit 32))) (.lit 8521215115264)) (.lit 0)))),(62,(.s .u64 (.op .or .u64 (.op .andNot .u64 (.op .or .u64 (.op .andNot .u64 (.op .or .u64 (.lit 0) (.op .shl .u64 (.cv .u64 (.v 19)) (.lit 0))) (.lit 4294901760)) (.op .shl .u64 (.cv .u64 (.v 20)) (.lit 16))) (.lit 281470681743360)) (.op .shl .u64 (.cv .u64 (.v 21)) (.lit 32))))),(61,(.i .u64 0)),(63,(.i .u64 0))],4⟩]
theorem znT:zl zaS 48 zd s48_60=true:=by decide +kernel
def zjJ:List Sm:=[tm48_2 1024]
theorem zjI:zl zaS 48 zd zjJ=true:=by decide +kernel
def zjH:List Sm:=[zgn 1028]
theorem zjG:zl zaS 48 zd zjH=true:=by decide +kernel
def zjF:List Sm:=[tm48_2 1088]
theorem zjE:zl zaS 48 zd zjF=true:=by decide +kernel
def zjD:List Sm:=[zgn 1092]
theorem zjC:zl zaS 48 zd zjD=true:=by decide +kernel
def zjB:List Sm:=[zgn 1096]
theorem zjA:zl zaS 48 zd zjB=true:=by decide +kernel
def zjz:List Sm:=[zgn 1100]
theorem zjy:zl zaS 48 zd zjz=true:=by decide +kernel
def zjx:List Sm:=[zbM 1104]
theorem zjw:zl zaS 48 zd zjx=true:=by decide +kernel
def zjv:List Sm:=[zbM 1108]
theorem zju:zl zaS 48 zd zjv=true:=by decide +kernel
def zjt:List Sm:=[zbM 1112]
theorem zjs:zl zaS 48 zd zjt=true:=by decide +kernel
def zjr:List Sm:=[zbM 1116]
theorem zjq:zl zaS 48 zd zjr=true:=by decide +kernel
def zjp:List Sm:=[zbM 1120]
theorem zjo:zl zaS 48 zd zjp=true:=by decide +kernel
def zjn:List Sm:=[zbM 1124]
theorem zjm:zl zaS 48 zd zjn=true:=by decide +kernel
def zjl:List Sm:=[zbM 1128]
theorem zjk:zl zaS 48 zd zjl=true:=by decide +kernel
def zjj:List Sm:=[zbM 1132]
theorem zji:zl zaS 48 zd zjj=true:=by decide +kernel
def zjh:List Sm:=[tm48_5 1156]
theorem zjg:zl zaS 48 zd zjh=true:=by decide +kernel
def zjf:List Sm:=[tm48_6 1160]
theorem zje:zl zaS 48 zd zjf=true:=by decide +kernel
def zjd:List Sm:=[tm48_5 1220]
theorem zjc:zl zaS 48 zd zjd=true:=by decide +kernel
def zjb:List Sm:=[tm48_6 1224]
theorem zja:zl zaS 48 zd zjb=true:=by decide +kernel
def zi9:List Sm:=[⟨[(.one (.i .i64 1024)),(.agg [(.w .i64 10),(.w .i64 11),(.w .i64 12),(.b false),(.w .i64 13),(.w .i64 14),(.w .i64 15),(.w .i64 16),(.b false),(.b false),(.w .i64 17),(.w .i64 18),(.w .i64 19),(.w .i64 20),(.w .u64 21),(.w .u64 22),(.w .u64 23),(.w .u64 24),(.w .u64 25),(.w .u64 26),(.w .u64 27),(.w .u64 28),(.w .u64 29),(.w .u64 30),(.w .u64 31),(.w .u64 32),(.w .u64 33),(.w .u64 34),(.w .u64 35),(.w .u64 36)])],[],[((.cmp .lss (.v 10) (.lit 0)),false),((.cmp .lss (.v 11) (.lit 0)),false),((.cmp .lss (.v 12) (.lit 0)),false),((.cmp .lss (.v 19) (.lit 0)),false),((.cmp .neq (.op .shr .u64 (.op .shl .u64 (.cv .u64 (.v 10)) (.lit 0)) (.lit 0)) (.cv .u64 (.v 10))),false),((.cmp .neq (.op .andNot .u64 (.op .shl .u64 (.cv .u64 (.v 10)) (.lit 0)) (.lit 7)) (.lit 0)),false),((.cmp .neq (.op .shr .u64 (.op .shl .u64 (.cv .u64 (.v 11)) (.lit 3)) (.lit 3)) (.cv .u64 (.v 11))),false),((.cmp .neq (.op .andNot .u64 (.op .shl .u64 (.cv .u64 (.v 11)) (.lit 3)) (.lit 2040)) (.lit 0)),false),((.cmp .neq (.op .shr .u64 (.op .shl .u64 (.cv .u64 (.v 12)) (.lit 11)) (.lit 11)) (.cv .u64 (.v 12))),false),((.cmp .neq (.op .andNot .u64 (.op .shl .u64 (.cv .u64 (.v 12)) (.lit 11)) (.lit 14336)) (.lit 0)),false),((.cmp .neq (.op .shr .u64 (.op .shl .u64 (.cv .u64 (.v 19)) (.lit 17)) (.lit 17)) (.cv .u64 (.v 19))),false),((.cmp .neq (.op .andNot .u64 (.op .shl .u64 (.cv .u64 (.v 19)) (.lit 17)) (.lit 393216)) (.lit 0)),false),((.cmp .lss (.v 13) (.lit 0)),false),((.cmp .lss (.v 14) (.lit 0)),false),((.cmp .lss (.v 15) (.lit 0)),false),((.cmp .lss (.v 17) (.lit 0)),false),((.cmp .neq (.op .shr .u64 (.op .shl .u64 (.cv .u64 (.v 13)) (.lit 0)) (.lit 0)) (.cv .u64 (.v 13))),false),((.cmp .neq (.op .andNot .u64 (.op .shl .u64 (.cv .u64 (.v 13)) (.lit 0)) (.lit 65535)) (.lit 0)),false),((.cmp .neq (.op .shr .u64 (.op .shl .u64 (.cv .u64 (.v 14)) (.lit 16)) (.lit 16)) (.cv .u64 (.v 14))),false),((.cmp .neq (.op .andNot .u64 (.op .shl .u64 (.cv .u64 (.v 14)) (.lit 16)) (.lit 4294901760)) (.lit 0)),false),((.cmp .neq (.op .shr .u64 (.op .shl .u64 (.cv .u64 (.v 15)) (.lit 32)) (.lit 32)) (.cv .u64 (.v 15))),false),((.cmp .neq (.op .andNot .u64 (.op .shl .u64 (.cv .u64 (.v 15)) (.lit 32)) (.lit 281470681743360)) (.lit 0)),false),((.cmp .neq (.op .shr .u64 (.op .shl .u64 (.cv .u64 (.v 17)) (.lit 48)) (.lit 48)) (.cv .u64 (.v 17))),false),((.cmp .neq (.op .andNot .u64 (.op .shl .u64 (.cv .u64 (.v 17)) (.lit 48)) (.lit 18446462598732840960)) (.lit 0)),false),((.cmp .lss (.v 16) (.lit 0)),false),((.cmp .neq (.op .shr .u64 (.op .shl .u64 (.cv .u64 (.v 16)) (.lit 0)) (.lit 0)) (.cv .u64 (.v 16))),false),((.cmp .neq (.op .andNot .u64 (.op .shl .u64 (.cv .u64 (.v 16)) (.lit 0)) (.lit 268435455)) (.lit 0)),false),((.cmp .lss (.v 18) (.lit 0)),false),((.cmp .lss (.v 20) (.lit 0)),false),((.cmp .neq (.op .shr .u64 (.op .shl .u64 (.cv .u64 (.v 18)) (.lit 0)) (.lit 0)) (.cv .u64 (.v 18))),false),((.cmp .neq (.op .andNot .u64 (.op .shl .u64 (.cv .u64 (.v 18)) (.lit 0)) (.lit 4294967295)) (.lit 0)),false),((.cmp .neq (.op .shr .u64 (.op .shl .u64 (.cv .u64 (.v 20)) (.lit 32)) (.lit 32)) (.cv .u64 (.v 20))),false),((.cmp .neq (.op .andNot .u64 (.op .shl .u64 (.cv .u64 (.v 20)) (.lit 32)) (.lit 18446744069414584320)) (.lit 0)),false),((.cmp .leq (.v 10) (.lit 5)),true),((.cmp .leq (.v 12) (.lit 5)),true)],(.one (.one (.i .i64 0))),[(1056,(.s .u64 (.v 21))),(1040,(.s .u64 (.op .or .u64 (.op .andNot .u64 (.op .or .u64 (.op .andNot .u64 (.op .or .u64 (.op .andNot .u64 (.op .or .u64 (.op .andNot .u64 (.op .or .u64 (.op .andNot .u64 (.op .or .u64 (.op .andNot .u64 (.op .or .u64 (.lit 0) (.op .shl .u64 (.cv .u64 (.v 10)) (.lit 0))) (.lit 2040)) (.op .shl .u64 (.cv .u64 (.v 11)) (.lit 3))) (.lit 14336)) (.op .shl .u64 (.cv .u64 (.v 12)) (.lit 11))) (.lit 16384)) (.lit 0)) (.lit 32768)) (.lit 0)) (.lit 65536)) (.lit 0)) (.lit 393216)) (.op .shl .u64 (.cv .u64 (.v 19)) (.lit 17))))),(1064,(.s .u64 (.v 29))),(1060,(.s .u64 (.v 25))),(1068,(.s .u64 (.v 33))),(1058,(.s .u64 (.v 23))),(1042,(.s .u64 (.op .or .u64 (.lit 0) (.op .shl .u64 (.cv .u64 (.v 16)) (.lit 0))))),(1066,(.s .u64 (.v 31))),(1062,(.s .u64 (.v 27))),(1070,(.s .u64 (.v 35))),(1057,(.s .u64 (.v 22))),(1041,(.s .u64 (.op .or .u64 (.op .andNot .u64 (.op .or .u64 (.op .andNot .u64 (.op .or .u64 (.op .andNot .u64 (.op .or .u64 (.lit 0) (.op .shl .u64 (.cv .u64 (.v 13)) (.lit 0))) (.lit 4294901760)) (.op .shl .u64 (.cv .u64 (.v 14)) (.lit 16))) (.lit 281470681743360)) (.op .shl .u64 (.cv .u64 (.v 15)) (.lit 32))) (.lit 18446462598732840960)) (.op .shl .u64 (.cv .u64 (.v 17)) (.lit 48))))),(1065,(.s .u64 (.v 30))),(1061,(.s .u64 (.v 26))),(1069,(.s .u64 (.v 34))),(1059,(.s .u64 (.v 24))),(1043,(.s .u64 (.op .or .u64 (.op .andNot .u64 (.op .or .u64 (.lit 0) (.op .shl .u64 (.cv .u64 (.v 18)) (.lit 0))) (.lit 18446744069414584320)) (.op .shl .u64 (.cv .u64 (.v 20)) (.lit 32))))),(1067,(.s .u64 (.v 32))),(1063,(.s .u64 (.v 28))),(1071,(.s .u64 (.v 36)))],20⟩,
 ⟨[(.one (.i .i64 1024)),(.agg [(.w .i64 10),(.w .i64 11),(.w .i64 12),(.b true),(.w .i64 13),(.w .i64 14),(.w .i64 15),(.w .i64 16),(.b false),(.b false),(.w .i64 17),(.w .i64 18),(.w .i64 19),(.w .i64 20),(.w .u64 21),(.w .u64 22),(.w .u64 23),(.w .u64 24),(.w .u64 25),(.w .u64 26),(.w .u64 27),(.w .u64 28),(.w .u64 29),(.w .u64 30),(.w .u64 31),(.w .u64 32),(.w .u64 33),(.w .u64 34),(.w .u64 35),(.w .u64 36)])],[],[((.cmp .lss (.v 10) (.lit 0)),false),((.cmp .lss (.v 11) (.lit 0)),false),((.cmp .lss (.v 12) (.lit 0)),false),((.cmp .lss (.v 19) (.lit 0)),false),((.cmp .neq (.op .shr .u64 (.op .shl .u64 (.cv .u64 (.v 10)) (.lit 0)) (.lit 0)) (.cv .u64 (.v 10))),false),((.cmp .neq (.op .andNot .u64 (.op .shl .u64 (.cv .u64 (.v 10)) (.lit 0)) (.lit 7)) (.lit 0)),false),((.cmp .neq (.op .shr .u64 (.op .shl .u64 (.cv .u64 (.v 11)) (.lit 3)) (.lit 3)) (.cv .u64 (.v 11))),false),((.cmp .neq (.op .andNot .u64 (.op .shl .u64 (.cv .u64 (.v 11)) (.lit 3)) (.lit 2040)) (.lit 0)),false),((.cmp .neq (.op .shr .u64 (.op .shl .u64 (.cv .u64 (.v 12)) (.lit 11)) (.lit 11)) (.cv .u64 (.v 12))),false),((.cmp .neq (.op .andNot .u64 (.op .shl .u64 (.cv .u64 (.v 12)) (.lit 11)) (.lit 14336)) (.lit 0)),false),((.cmp .neq (.op .shr .u64 (.op .shl .u64 (.cv .u64 (.v 19)) (.lit 17)) (.lit 17)) (.cv .u64 (.v 19))),false),((.cmp .neq (.op .andNot .u64 (.op .shl .u64 (.cv .u64 (.v 19)) (.lit 17)) (.lit 393216)) (.lit 0)),false),((.cmp .lss (.v 13) (.lit 0)),false),((.cmp .lss (.v 14) (.lit 0)),false),((.cmp .lss (.v 15) (.lit 0)),false),((.cmp .lss (.v 17) (.lit 0)),false),((.cmp .neq (.op .shr .u64 (.op .shl .u64 (.cv .u64 (.v 13)) (.lit 0)) (.lit 0)) (.cv .u64 (.v 13))),false),((.cmp .neq (.op .andNot .u64 (.op .shl .u64 (.cv .u64 (.v 13)) (.lit 0)) (.lit 65535)) (.lit 0)),false),((.cmp .neq (.op .shr .u64 (.op .shl .u64 (.cv .u64 (.v 14)) (.lit 16)) (.lit 16)) (.cv .u64 (.v 14))),false),((.cmp .neq (.op .andNot .u64 (.op .shl .u64 (.cv .u64 (.v 14)) (.lit 16)) (.lit 4294901760)) (.lit 0)),false),((.cmp .neq (.op .shr .u64 (.op .shl .u64 (.cv .u64 (.v 15)) (.lit 32)) (.lit 32)) (.cv .u64 (.v 15))),false),((.cmp .neq (.op .andNot .u64 (.op .shl .u64 (.cv .u64 (.v 15)) (.lit 32)) (.lit 281470681743360)) (.lit 0)),false),((.cmp .neq (.op .shr .u64 (.op .shl .u64 (.cv .u64 (.v 17)) (.lit 48)) (.lit 48)) (.cv .u64 (.v 17))),false),((.cmp .neq (.op .andNot .u64 (.op .shl .u64 (.cv .u64 (.v 17)) (.lit 48)) (.lit 18446462598732840960)) (.lit 0)),false),((.cmp .lss (.v 16) (.lit 0)),false),((.cmp .neq (.op .shr .u64 (.op .shl .u64 (.cv .u64 (.v 16)) (.lit 0)) (.lit 0)) (.cv .u64 (.v 16))),false),((.cmp .neq (.op .andNot .u64 (.op .shl .u64 (.cv .u64 (.v 16)) (.lit 0)) (.lit 268435455)) (.lit 0)),false),((.cmp .lss (.v 18) (.lit 0)),false),((.cmp .lss (.v 20) (.lit 0)),false),((.cmp .neq (.op .shr .u64 (.op .shl .u64 (.cv .u64 (.v 18)) (.lit 0)) (.lit 0)) (.cv .u64 (.v 18))),false),((.cmp .neq (.op .andNot .u64 (.op .shl .u64 (.cv .u64 (.v 18)) (.lit 0)) (.lit 4294967295)) (.lit 0)),false),((.cmp .neq (.op .shr .u64 (.op .shl .u64 (.cv .u64 (.v 20)) (.lit 32)) (.lit 32)) (.cv .u64 (.v 20))),false),((.cmp .neq (.op .andNot .u64 (.op .shl .u64 (.cv .u64 (.v 20)) (.lit 32)) (.lit 18446744069414584320)) (.lit 0)),false),((.cmp .leq (.v 10) (.lit 5)),true),((.cmp .leq (.v 12) (.lit 5)),true)],(.one (.one (.i .i64 0))),[(1056,(.s .u64 (.v 21))),(1040,(.s .u64 (.op .or .u64 (.op .andNot .u64 (.op .or .u64 (.op .andNot .u64 (.op .or .u64 (.op .andNot .u64 (.op .or .u64 (.op .andNot .u64 (.op .or .u64 (.op .andNot .u64 (.op .or .u64 (.op .andNot .u64 (.op .or .u64 (.lit 0) (.op .shl .u64 (.cv .u64 (.v 10)) (.lit 0))) (.lit 2040)) (.op .shl .u64 (.cv .u64 (.v 11)) (.lit 3))) (.lit 14336)) (.op .shl .u64 (.cv .u64 (.v 12)) (.lit 11))) (.lit 16384)) (.lit 16384)) (.lit 32768)) (.lit 0)) (.lit 65536)) (.lit 0)) (.lit 393216)) (.op .shl .u64 (.cv .u64 (.v 19)) (.lit 17))))),(1064,(.s .u64 (.v 29))),(1060,(.s .u64 (.v 25))),(1068,(.s .u64 (.v 33))),(1058,(.s .u64 (.v 23))),(1042,(.s .u64 (.op .or .u64 (.lit 0) (.op .shl .u64 (.cv .u64 (.v 16)) (.lit 0))))),(1066,(.s .u64 (.v 31))),(1062,(.s .u64 (.v 27))),(1070,(.s .u64 (.v 35))),(1057,(.s .u64 (.v 22))),(1041,(.s .u64 (.op .or .u64 (.op .andNot .u64 (.op .or .u64 (.op .andNot .u64 (.op .or .u64 (.op .andNot .u64 (.op .or .u64 (.lit 0) (.op .shl .u64 (.cv .u64 (.v 13)) (.lit 0))) (.lit 4294901760)) (.op .shl .u64 (.cv .u64 (.v 14)) (.lit 16))) (.lit 281470681743360)) (.op .shl .u64 (.cv .u64 (.v 15)) (.lit 32))) (.lit 18446462598732840960)) (.op .shl .u64 (.cv .u64 (.v 17)) (.lit 48))))),(1065,(.s .u64 (.v 30))),(1061,(.s .u64 (.v 26))),(1069,(.s .u64 (.v 34))),(1059,(.s .u64 (.v 24))),(1043,(.s .u64 (.op .or .u64 (.op .andNot .u64 (.op .or .u64 (.lit 0) (.op .shl .u64 (.cv .u64 (.v 18)) (.lit 0))) (.lit 18446744069414584320)) (.op .shl .u64 (.cv .u64 (.v 20)) (.lit 32))))),(1067,(.s .u64 (.v 32))),(1063,(.s .u64 (.v 28))),(1071,(.s .u64 (.v 36)))],20⟩]
theorem zi8:zl mc52 52 zd zi9=true:=by decide +kernel
def zi7:List Sm:=[⟨[(.one (.i .i64 1088)),(.agg [(.w .i64 10),(.w .i64 11),(.w .i64 12),(.b false),(.w .i64 13),(.w .i64 14),(.w .i64 15),(.w .i64 16),(.b false),(.b false),(.w .i64 17),(.w .i64 18),(.w .i64 19),(.w .i64 20),(.w .u64 21),(.w .u64 22),(.w .u64 23),(.w .u64 24),(.w .u64 25),(.w .u64 26),(.w .u64 27),(.w .u64 28),(.w .u64 29),(.w .u64 30),(.w .u64 31),(.w .u64 32),(.w .u64 33),(.w .u64 34),(.w .u64 35),(.w .u64 36)])],[],[((.cmp .lss (.v 10) (.lit 0)),false),((.cmp .lss (.v 11) (.lit 0)),false),((.cmp .lss (.v 12) (.lit 0)),false),((.cmp .lss (.v 19) (.lit 0)),false),((.cmp .neq (.op .shr .u64 (.op .shl .u64 (.cv .u64 (.v 10)) (.lit 0)) (.lit 0)) (.cv .u64 (.v 10))),false),((.cmp .neq (.op .andNot .u64 (.op .shl .u64 (.cv .u64 (.v 10)) (.lit 0)) (.lit 7)) (.lit 0)),false),((.cmp .neq (.op .shr .u64 (.op .shl .u64 (.cv .u64 (.v 11)) (.lit 3)) (.lit 3)) (.cv .u64 (.v 11))),false),((.cmp .neq (.op .andNot .u64 (.op .shl .u64 (.cv .u64 (.v 11)) (.lit 3)) (.lit 2040)) (.lit 0)),false),((.cmp .neq (.op .shr .u64 (.op .shl .u64 (.cv .u64 (.v 12)) (.lit 11)) (.lit 11)) (.cv .u64 (.v 12))),false),((.cmp .neq (.op .andNot .u64 (.op .shl .u64 (.cv .u64 (.v 12)) (.lit 11)) (.lit 14336)) (.lit 0)),false),((.cmp .neq (.op .shr .u64 (.op .shl .u64 (.cv .u64 (.v 19)) (.lit 17)) (.lit 17)) (.cv .u64 (.v 19))),false),((.cmp .neq (.op .andNot .u64 (.op .shl .u64 (.cv .u64 (.v 19)) (.lit 17)) (.lit 393216)) (.lit 0)),false),((.cmp .lss (.v 13) (.lit 0)),false),((.cmp .lss (.v 14) (.lit 0)),false),((.cmp .lss (.v 15) (.lit 0)),false),((.cmp .lss (.v 17) (.lit 0)),false),((.cmp .neq (.op .shr .u64 (.op .shl .u64 (.cv .u64 (.v 13)) (.lit 0)) (.lit 0)) (.cv .u64 (.v 13))),false),((.cmp .neq (.op .andNot .u64 (.op .shl .u64 (.cv .u64 (.v 13)) (.lit 0)) (.lit 65535)) (.lit 0)),false),((.cmp .neq (.op .shr .u64 (.op .shl .u64 (.cv .u64 (.v 14)) (.lit 16)) (.lit 16)) (.cv .u64 (.v 14))),false),((.cmp .neq (.op .andNot .u64 (.op .shl .u64 (.cv .u64 (.v 14)) (.lit 16)) (.lit 4294901760)) (.lit 0)),false),((.cmp .neq (.op .shr .u64 (.op .shl .u64 (.cv .u64 (.v 15)) (.lit 32)) (.lit 32)) (.cv .u64 (.v 15))),false),((.cmp .neq (.op .andNot .u64 (.op .shl .u64 (.cv .u64 (.v 15)) (.lit 32)) (.lit 281470681743360)) (.lit 0)),false),((.cmp .neq (.op .shr .u64 (.op .shl .u64 (.cv .u64 (.v 17)) (.lit 48)) (.lit 48)) (.cv .u64 (.v 17))),false),((.cmp .neq (.op .andNot .u64 (.op .shl .u64 (.cv .u64 (.v 17)) (.lit 48)) (.lit 18446462598732840960)) (.lit 0)),false),((.cmp .lss (.v 16) (.lit 0)),false),((.cmp .neq (.op .shr .u64 (.op .shl .u64 (.cv .u64 (.v 16)) (.lit 0)) (.lit 0)) (.cv .u64 (.v 16))),false),((.cmp .neq (.op .andNot .u64 (.op .shl .u64 (.cv .u64 (.v 16)) (.lit 0)) (.lit 268435455)) (.lit 0)),false),((.cmp .lss (.v 18) (.lit 0)),false),((.cmp .lss (.v 20) (.lit 0)),false),((.cmp .neq (.op .shr .u64 (.op .shl .u64 (.cv .u64 (.v 18)) (.lit 0)) (.lit 0)) (.cv .u64 (.v 18))),false),((.cmp .neq (.op .andNot .u64 (.op .shl .u64 (.cv .u64 (.v 18)) (.lit 0)) (.lit 4294967295)) (.lit 0)),false),((.cmp .neq (.op .shr .u64 (.op .shl .u64 (.cv .u64 (.v 20)) (.lit 32)) (.lit 32)) (.cv .u64 (.v 20))),false),((.cmp .neq (.op .andNot .u64 (.op .shl .u64 (.cv .u64 (.v 20)) (.lit 32)) (.lit 18446744069414584320)) (.lit 0)),false),((.cmp .leq (.v 10) (.lit 5)),true),((.cmp .leq (.v 12) (.lit 5)),true)],(.one (.one (.i .i64 0))),[(1120,(.s .u64 (.v 21))),(1104,(.s .u64 (.op .or .u64 (.op .andNot .u64 (.op .or .u64 (.op .andNot .u64 (.op .or .u64 (.op .andNot .u64 (.op .or .u64 (.op .andNot .u64 (.op .or .u64 (.op .andNot .u64 (.op .or .u64 (.op .andNot .u64 (.op .or .u64 (.lit 0) (.op .shl .u64 (.cv .u64 (.v 10)) (.lit 0))) (.lit 2040)) (.op .shl .u64 (.cv .u64 (.v 11)) (.lit 3))) (.lit 14336)) (.op .shl .u64 (.cv .u64 (.v 12)) (.lit 11))) (.lit 16384)) (.lit 0)) (.lit 32768)) (.lit 0)) (.lit 65536)) (.lit 0)) (.lit 393216)) (.op .shl .u64 (.cv .u64 (.v 19)) (.lit 17))))),(1128,(.s .u64 (.v 29))),(1124,(.s .u64 (.v 25))),(1132,(.s .u64 (.v 33))),(1122,(.s .u64 (.v 23))),(1106,(.s .u64 (.op .or .u64 (.lit 0) (.op .shl .u64 (.cv .u64 (.v 16)) (.lit 0))))),(1130,(.s .u64 (.v 31))),(1126,(.s .u64 (.v 27))),(1134,(.s .u64 (.v 35))),(1121,(.s .u64 (.v 22))),(1105,(.s .u64 (.op .or .u64 (.op .andNot .u64 (.op .or .u64 (.op .andNot .u64 (.op .or .u64 (.op .andNot .u64 (.op .or .u64 (.lit 0) (.op .shl .u64 (.cv .u64 (.v 13)) (.lit 0))) (.lit 4294901760)) (.op .shl .u64 (.cv .u64 (.v 14)) (.lit 16))) (.lit 281470681743360)) (.op .shl .u64 (.cv .u64 (.v 15)) (.lit 32))) (.lit 18446462598732840960)) (.op .shl .u64 (.cv .u64 (.v 17)) (.lit 48))))),(1129,(.s .u64 (.v 30))),(1125,(.s .u64 (.v 26))),(1133,(.s .u64 (.v 34))),(1123,(.s .u64 (.v 24))),(1107,(.s .u64 (.op .or .u64 (.op .andNot .u64 (.op .or .u64 (.lit 0) (.op .shl .u64 (.cv .u64 (.v 18)) (.lit 0))) (.lit 18446744069414584320)) (.op .shl .u64 (.cv .u64 (.v 20)) (.lit 32))))),(1131,(.s .u64 (.v 32))),(1127,(.s .u64 (.v 28))),(1135,(.s .u64 (.v 36)))],20⟩,
 ⟨[(.one (.i .i64 1088)),(.agg [(.w .i64 10),(.w .i64 11),(.w .i64 12),(.b true),(.w .i64 13),(.w .i64 14),(.w .i64 15),(.w .i64 16),(.b false),(.b false),(.w .i64 17),(.w .i64 18),(.w .i64 19),(.w .i64 20),(.w .u64 21),(.w .u64 22),(.w .u64 23),(.w .u64 24),(.w .u64 25),(.w .u64 26),(.w .u64 27),(.w .u64 28),(.w .u64 29),(.w .u64 30),(.w .u64 31),(.w .u64 32),(.w .u64 33),(.w .u64 34),(.w .u64 35),(.w .u64 36)])],[],[((.cmp .lss (.v 10) (.lit 0)),false),((.cmp .lss (.v 11) (.lit 0)),false),((.cmp .lss (.v 12) (.lit 0)),false),((.cmp .lss (.v 19) (.lit 0)),false),((.cmp .neq (.op .shr .u64 (.op .shl .u64 (.cv .u64 (.v 10)) (.lit 0)) (.lit 0)) (.cv .u64 (.v 10))),false),((.cmp .neq (.op .andNot .u64 (.op .shl .u64 (.cv .u64 (.v 10)) (.lit 0)) (.lit 7)) (.lit 0)),false),((.cmp .neq (.op .shr .u64 (.op .shl .u64 (.cv .u64 (.v 11)) (.lit 3)) (.lit 3)) (.cv .u64 (.v 11))),false),((.cmp .neq (.op .andNot .u64 (.op .shl .u64 (.cv .u64 (.v 11)) (.lit 3)) (.lit 2040)) (.lit 0)),false),((.cmp .neq (.op .shr .u64 (.op .shl .u64 (.cv .u64 (.v 12)) (.lit 11)) (.lit 11)) (.cv .u64 (.v 12))),false),((.cmp .neq (.op .andNot .u64 (.op .shl .u64 (.cv .u64 (.v 12)) (.lit 11)) (.lit 14336)) (.lit 0)),false),((.cmp .neq (.op .shr .u64 (.op .shl .u64 (.cv .u64 (.v 19)) (.lit 17)) (.lit 17)) (.cv .u64 (.v 19))),false),((.cmp .neq (.op .andNot .u64 (.op .shl .u64 (.cv .u64 (.v 19)) (.lit 17)) (.lit 393216)) (.lit 0)),false),((.cmp .lss (.v 13) (.lit 0)),false),((.cmp .lss (.v 14) (.lit 0)),false),((.cmp .lss (.v 15) (.lit 0)),false),((.cmp .lss (.v 17) (.lit 0)),false),((.cmp .neq (.op .shr .u64 (.op .shl .u64 (.cv .u64 (.v 13)) (.lit 0)) (.lit 0)) (.cv .u64 (.v 13))),false),((.cmp .neq (.op .andNot .u64 (.op .shl .u64 (.cv .u64 (.v 13)) (.lit 0)) (.lit 65535)) (.lit 0)),false),((.cmp .neq (.op .shr .u64 (.op .shl .u64 (.cv .u64 (.v 14)) (.lit 16)) (.lit 16)) (.cv .u64 (.v 14))),false),((.cmp .neq (.op .andNot .u64 (.op .shl .u64 (.cv .u64 (.v 14)) (.lit 16)) (.lit 4294901760)) (.lit 0)),false),((.cmp .neq (.op .shr .u64 (.op .shl .u64 (.cv .u64 (.v 15)) (.lit 32)) (.lit 32)) (.cv .u64 (.v 15))),false),((.cmp .neq (.op .andNot .u64 (.op .shl .u64 (.cv .u64 (.v 15)) (.lit 32)) (.lit 281470681743360)) (.lit 0)),false),((.cmp .neq (.op .shr .u64 (.op .shl .u64 (.cv .u64 (.v 17)) (.lit 48)) (.lit 48)) (.cv .u64 (.v 17))),false),((.cmp .neq (.op .andNot .u64 (.op .shl .u64 (.cv .u64 (.v 17)) (.lit 48)) (.lit 18446462598732840960)) (.lit 0)),false),((.cmp .lss (.v 16) (.lit 0)),false),((.cmp .neq (.op .shr .u64 (.op .shl .u64 (.cv .u64 (.v 16)) (.lit 0)) (.lit 0)) (.cv .u64 (.v 16))),false),((.cmp .neq (.op .andNot .u64 (.op .shl .u64 (.cv .u64 (.v 16)) (.lit 0)) (.lit 268435455)) (.lit 0)),false),((.cmp .lss (.v 18) (.lit 0)),false),((.cmp .lss (.v 20) (.lit 0)),false),((.cmp .neq (.op .shr .u64 (.op .shl .u64 (.cv .u64 (.v 18)) (.lit 0)) (.lit 0)) (.cv .u64 (.v 18))),false),((.cmp .neq (.op .andNot .u64 (.op .shl .u64 (.cv .u64 (.v 18)) (.lit 0)) (.lit 4294967295)) (.lit 0)),false),((.cmp .neq (.op .shr .u64 (.op .shl .u64 (.cv .u64 (.v 20)) (.lit 32)) (.lit 32)) (.cv .u64 (.v 20))),false),((.cmp .neq (.op .andNot .u64 (.op .shl .u64 (.cv .u64 (.v 20)) (.lit 32)) (.lit 18446744069414584320)) (.lit 0)),false),((.cmp .leq (.v 10) (.lit 5)),true),((.cmp .leq (.v 12) (.lit 5)),true)],(.one (.one (.i .i64 0))),[(1120,(.s .u64 (.v 21))),(1104,(.s .u64 (.op .or .u64 (.op .andNot .u64 (.op .or .u64 (.op .andNot .u64 (.op .or .u64 (.op .andNot .u64 (.op .or .u64 (.op .andNot .u64 (.op .or .u64 (.op .andNot .u64 (.op .or .u64 (.op .andNot .u64 (.op .or .u64 (.lit 0) (.op .shl .u64 (.cv .u64 (.v 10)) (.lit 0))) (.lit 2040)) (.op .shl .u64 (.cv .u64 (.v 11)) (.lit 3))) (.lit 14336)) (.op .shl .u64 (.cv .u64 (.v 12)) (.lit 11))) (.lit 16384)) (.lit 16384)) (.lit 32768)) (.lit 0)) (.lit 65536)) (.lit 0)) (.lit 393216)) (.op .shl .u64 (.cv .u64 (.v 19)) (.lit 17))))),(1128,(.s .u64 (.v 29))),(1124,(.s .u64 (.v 25))),(1132,(.s .u64 (.v 33))),(1122,(.s .u64 (.v 23))),(1106,(.s .u64 (.op .or .u64 (.lit 0) (.op .shl .u64 (.cv .u64 (.v 16)) (.lit 0))))),(1130,(.s .u64 (.v 31))),(1126,(.s .u64 (.v 27))),(1134,(.s .u64 (.v 35))),(1121,(.s .u64 (.v 22))),(1105,(.s .u64 (.op .or .u64 (.op .andNot .u64 (.op .or .u64 (.op .andNot .u64 (.op .or .u64 (.op .andNot .u64 (.op .or .u64 (.lit 0) (.op .shl .u64 (.cv .u64 (.v 13)) (.lit 0))) (.lit 4294901760)) (.op .shl .u64 (.cv .u64 (.v 14)) (.lit 16))) (.lit 281470681743360)) (.op .shl .u64 (.cv .u64 (.v 15)) (.lit 32))) (.lit 18446462598732840960)) (.op .shl .u64 (.cv .u64 (.v 17)) (.lit 48))))),(1129,(.s .u64 (.v 30))),(1125,(.s .u64 (.v 26))),(1133,(.s .u64 (.v 34))),(1123,(.s .u64 (.v 24))),(1107,(.s .u64 (.op .or .u64 (.op .andNot .u64 (.op .or .u64 (.lit 0) (.op .shl .u64 (.cv .u64 (.v 18)) (.lit 0))) (.lit 18446744069414584320)) (.op .shl .u64 (.cv .u64 (.v 20)) (.lit 32))))),(1131,(.s .u64 (.v 32))),(1127,(.s .u64 (.v 28))),(1135,(.s .u64 (.v 36)))],20⟩]
theorem zi6:zl mc52 52 zd zi7=true:=by decide +kernel
def s72_32:List Sm:=[tm72_7 32]
theorem znS:zl z4 72 zd s72_32=true:=by decide +kernel
def s72_36:List Sm:=[tm72_7 36]
theorem znR:zl z4 72 zd s72_36=true:=by decide +kernel
def s72_40:List Sm:=[zp 40]
theorem znQ:zl z4 72 zd s72_40=true:=by decide +kernel
def s72_44:List Sm:=[zp 44]
theorem znP:zl z4 72 zd s72_44=true:=by decide +kernel
def s72_48:List Sm:=[zp 48]
theorem znO:zl z4 72 zd s72_48=true:=by decide +kernel
def s72_52:List Sm:=[zp 52]
theorem znN:zl z4 72 zd s72_52=true:=by decide +kernel
def s72_56:List Sm:=[zp 56]
theorem znM:zl z4 72 zd s72_56=true:=by decide +kernel
def s72_60:List Sm:=[⟨[(.one (.i .i64 60))],[(60,100),(61,101),(62,102),(63,103)],[((.cmp .eql (.op .shr .u64 (.op .and .u64 (.v 100) (.lit 32505856)) (.lit 20)) (.lit 0)),true),((.cmp .eql (.op .shr .u64 (.op .and .u64 (.v 100) (.lit 8521215115264)) (.lit 38)) (.lit 0)),true),((.cmp .neq (.op .shr .u64 (.v 100) (.lit 43)) (.lit 0)),false),((.cmp .geq (.v 101) (.lit 4294967296)),false),((.cmp .eql (.cv .i64 (.op .shr .u64 (.op .and .u64 (.v 100) (.lit 15)) (.lit 0))) (.lit 2)),false),((.cmp .eql (.cv .i64 (.op .shr .u64 (.op .and .u64 (.v 100) (.lit 15)) (.lit 0))) (.lit 4)),false),((.cmp .eql (.cv .i64 (.op .shr .u64 (.op .and .u64 (.v 100) (.lit 15)) (.lit 0))) (.lit 5)),false),((.cmp .eql (.cv .i64 (.op .shr .u64 (.op .and .u64 (.v 100) (.lit 15)) (.lit 0))) (.lit 6)),false),((.cmp .eql (.cv .i64 (.op .shr .u64 (.op .and .u64 (.v 100) (.lit 15)) (.lit 0))) (.lit 8)),false),((.cmp .eql (.cv .i64 (.op .shr .u64 (.op .and .u64 (.v 100) (.lit 15)) (.lit 0))) (.lit 1)),false),((.cmp .eql (.cv .i64 (.op .shr .u64 (.op .and .u64 (.v 100) (.lit 15)) (.lit 0))) (.lit 10)),false),((.cmp .eql (.cv .i64 (.op .shr .u64 (.op .and .u64 (.v 100) (.lit 15)) (.lit 0))) (.lit 3)),false),((.cmp .eql (.cv .i64 (.op .shr .u64 (.op .and .u64 (.v 100) (.lit 15)) (.lit 0))) (.lit 9)),false),((.cmp .eql (.cv .i64 (.op .shr .u64 (.op .and .u64 (.v 100) (.lit 15)) (.lit 0))) (.lit 7)),true),((.cmp .eql (.cv .i64 (.v 101)) (.lit 0)),true),((.cmp .eql (.cv .i64 (.op .shr .u64 (.op .and .u64 (.v 100) (.lit 234881024)) (.lit 25))) (.lit 0)),true),((.cmp .eql (.cv .i64 (.op .shr .u64 (.op .and .u64 (.v 100) (.lit 4026531840)) (.lit 28))) (.lit 0)),true),((.cmp .lss (.cv .i64 (.op .shr .u64 (.op .and .u64 (.v 100) (.lit 1048560)) (.lit 4))) (.lit 1024)),false),((.cmp .gtr (.cv .i64 (.op .shr .u64 (.op .and .u64 (.v 100) (.lit 1048560)) (.lit 4))) (.lit 65535)),false),((.cmp .neq (.op .rem .i64 (.cv .i64 (.op .shr .u64 (.op .and .u64 (.v 100) (.lit 1048560)) (.lit 4))) (.lit 8)) (.lit 0)),false),((.cmp .geq (.cv .i64 (.op .shr .u64 (.op .and .u64 (.v 100) (.lit 270582939648)) (.lit 32))) (.lit 0)),true),((.cmp .leq (.cv .i64 (.op .shr .u64 (.op .and .u64 (.v 100) (.lit 270582939648)) (.lit 32))) (.lit 63)),true),((.cmp .eql (.op .rem .i64 (.cv .i64 (.op .shr .u64 (.op .and .u64 (.v 100) (.lit 270582939648)) (.lit 32))) (.lit 8)) (.lit 0)),true),((.cmp .neq (.op .shr .u64 (.v 102) (.lit 48)) (.lit 0)),false),((.cmp .neq (.v 103) (.lit 0)),false),((.cmp .geq (.cv .i64 (.op .shr .u64 (.op .and .u64 (.v 102) (.lit 65535)) (.lit 0))) (.lit 0)),true),((.cmp .lss (.cv .i64 (.op .shr .u64 (.op .and .u64 (.v 102) (.lit 65535)) (.lit 0))) (.lit 65536)),true),((.cmp .eql (.op .rem .i64 (.cv .i64 (.op .shr .u64 (.op .and .u64 (.v 102) (.lit 65535)) (.lit 0))) (.lit 4)) (.lit 0)),true),((.cmp .geq (.cv .i64 (.op .shr .u64 (.op .and .u64 (.v 102) (.lit 4294901760)) (.lit 16))) (.lit 0)),true),((.cmp .lss (.cv .i64 (.op .shr .u64 (.op .and .u64 (.v 102) (.lit 4294901760)) (.lit 16))) (.lit 65536)),true),((.cmp .eql (.op .rem .i64 (.cv .i64 (.op .shr .u64 (.op .and .u64 (.v 102) (.lit 4294901760)) (.lit 16))) (.lit 4)) (.lit 0)),true),((.cmp .geq (.cv .i64 (.op .shr .u64 (.op .and .u64 (.v 102) (.lit 281470681743360)) (.lit 32))) (.lit 0)),true),((.cmp .lss (.cv .i64 (.op .shr .u64 (.op .and .u64 (.v 102) (.lit 281470681743360)) (.lit 32))) (.lit 65536)),true)],(.tup [(.agg [(.i .i64 7),(.s .i64 (.cv .i64 (.op .shr .u64 (.op .and .u64 (.v 100) (.lit 1048560)) (.lit 4)))),(.i .i64 0),(.i .i64 0),(.i .i64 0),(.i .i64 0),(.i .i64 0),(.i .i64 0),(.s .i64 (.cv .i64 (.op .shr .u64 (.op .and .u64 (.v 100) (.lit 270582939648)) (.lit 32)))),(.i .i64 0),(.i .i64 0),(.s .i64 (.cv .i64 (.op .shr .u64 (.op .and .u64 (.v 102) (.lit 65535)) (.lit 0)))),(.s .i64 (.cv .i64 (.op .shr .u64 (.op .and .u64 (.v 102) (.lit 4294901760)) (.lit 16)))),(.s .i64 (.cv .i64 (.op .shr .u64 (.op .and .u64 (.v 102) (.lit 281470681743360)) (.lit 32))))]),(.one (.i .i64 0))]),[],4⟩]
theorem znL:zl z4 72 zd s72_60=true:=by decide +kernel
def s72_64:List Sm:=[zp 64]
theorem znK:zl z4 72 zd s72_64=true:=by decide +kernel
def s72_68:List Sm:=[zp 68]
theorem znJ:zl z4 72 zd s72_68=true:=by decide +kernel
def s72_72:List Sm:=[zp 72]
theorem znI:zl z4 72 zd s72_72=true:=by decide +kernel
def s72_76:List Sm:=[zp 76]
theorem znH:zl z4 72 zd s72_76=true:=by decide +kernel
def s72_80:List Sm:=[zp 80]
theorem znG:zl z4 72 zd s72_80=true:=by decide +kernel
def s72_84:List Sm:=[zp 84]
theorem znF:zl z4 72 zd s72_84=true:=by decide +kernel
def s72_88:List Sm:=[zp 88]
theorem znE:zl z4 72 zd s72_88=true:=by decide +kernel
def s72_92:List Sm:=[zp 92]
theorem znD:zl z4 72 zd s72_92=true:=by decide +kernel
def s72_96:List Sm:=[zp 96]
theorem znC:zl z4 72 zd s72_96=true:=by decide +kernel
def zmA:List Sm:=[zp 100]
theorem zlD:zl z4 72 zd zmA=true:=by decide +kernel
def zmz:List Sm:=[zp 104]
theorem zlC:zl z4 72 zd zmz=true:=by decide +kernel
def zmy:List Sm:=[zp 108]
theorem zlB:zl z4 72 zd zmy=true:=by decide +kernel
def zmx:List Sm:=[zp 112]
theorem zlA:zl z4 72 zd zmx=true:=by decide +kernel
def zmw:List Sm:=[zp 116]
theorem zlz:zl z4 72 zd zmw=true:=by decide +kernel
def zmv:List Sm:=[zp 120]
theorem zly:zl z4 72 zd zmv=true:=by decide +kernel
def zmu:List Sm:=[zp 124]
theorem zlx:zl z4 72 zd zmu=true:=by decide +kernel
def zi5:List Sm:=[tm72_9 1024]
theorem zi4:zl z4 72 zd zi5=true:=by decide +kernel
def zi3:List Sm:=[zp 1028,
 zec 1028]
theorem zi2:zl z4 72 zd zi3=true:=by decide +kernel
def zi1:List Sm:=[zp 1032]
theorem zi0:zl z4 72 zd zi1=true:=by decide +kernel
def ziZ:List Sm:=[tm72_9 1088,
 zp 1088]
theorem ziY:zl z4 72 zd ziZ=true:=by decide +kernel
def ziX:List Sm:=[zp 1092,
 zec 1092]
theorem ziW:zl z4 72 zd ziX=true:=by decide +kernel
def ziV:List Sm:=[zp 1096,
 zec 1096]
theorem ziU:zl z4 72 zd ziV=true:=by decide +kernel
def ziT:List Sm:=[zec 1100]
theorem ziS:zl z4 72 zd ziT=true:=by decide +kernel
def ziR:List Sm:=[za2 1104]
theorem ziQ:zl z4 72 zd ziR=true:=by decide +kernel
def ziP:List Sm:=[za2 1108]
theorem ziO:zl z4 72 zd ziP=true:=by decide +kernel
def ziN:List Sm:=[za2 1112]
theorem ziM:zl z4 72 zd ziN=true:=by decide +kernel
def ziL:List Sm:=[za2 1116]
theorem ziK:zl z4 72 zd ziL=true:=by decide +kernel
def ziJ:List Sm:=[za2 1120]
theorem ziI:zl z4 72 zd ziJ=true:=by decide +kernel
def ziH:List Sm:=[za2 1124]
theorem ziG:zl z4 72 zd ziH=true:=by decide +kernel
def ziF:List Sm:=[za2 1128]
theorem ziE:zl z4 72 zd ziF=true:=by decide +kernel
def ziD:List Sm:=[za2 1132]
theorem ziC:zl z4 72 zd ziD=true:=by decide +kernel
def ziB:List Sm:=[zp 1152]
theorem ziA:zl z4 72 zd ziB=true:=by decide +kernel
def ziz:List Sm:=[zms 1156]
theorem ziy:zl z4 72 zd ziz=true:=by decide +kernel
def zix:List Sm:=[zmr 1160]
theorem ziw:zl z4 72 zd zix=true:=by decide +kernel
end Go.Ev.X
end
set_option linter.unusedSimpArgs false
set_option linter.unusedVariables false
set_option maxRecDepth 100000
noncomputable section
namespace Go.Ev.X
open Go Go.Ev
def ziv:List Sm:=[zp 1164]
theorem ziu:zl z4 72 zd ziv=true:=by decide +kernel
def zit:List Sm:=[zp 1168]
theorem zis:zl z4 72 zd zit=true:=by decide +kernel
def zir:List Sm:=[zp 1172]
theorem ziq:zl z4 72 zd zir=true:=by decide +kernel
def zio:List Sm:=[zp 1176]
theorem zin:zl z4 72 zd zio=true:=by decide +kernel
def zim:List Sm:=[zp 1180]
theorem zil:zl z4 72 zd zim=true:=by decide +kernel
def zik:List Sm:=[zp 1184]
theorem zij:zl z4 72 zd zik=true:=by decide +kernel
def zii:List Sm:=[zp 1188]
theorem zih:zl z4 72 zd zii=true:=by decide +kernel
def zig:List Sm:=[zp 1192]
theorem zif:zl z4 72 zd zig=true:=by decide +kernel
def zie:List Sm:=[zp 1196]
theorem zid:zl z4 72 zd zie=true:=by decide +kernel
def zic:List Sm:=[zp 1200]
theorem zib:zl z4 72 zd zic=true:=by decide +kernel
def zia:List Sm:=[zp 1204]
theorem zh9:zl z4 72 zd zia=true:=by decide +kernel
def zh8:List Sm:=[zp 1208]
theorem zh7:zl z4 72 zd zh8=true:=by decide +kernel
def zh6:List Sm:=[zp 1212]
theorem zh5:zl z4 72 zd zh6=true:=by decide +kernel
def zh4:List Sm:=[zp 1216]
theorem zh3:zl z4 72 zd zh4=true:=by decide +kernel
def zh2:List Sm:=[zms 1220]
theorem zh1:zl z4 72 zd zh2=true:=by decide +kernel
def zh0:List Sm:=[zmr 1224]
theorem zhZ:zl z4 72 zd zh0=true:=by decide +kernel
def zhY:List Sm:=[zp 1228]
theorem zhX:zl z4 72 zd zhY=true:=by decide +kernel
def zhW:List Sm:=[zp 1232]
theorem zhV:zl z4 72 zd zhW=true:=by decide +kernel
def zhU:List Sm:=[zp 1236]
theorem zhT:zl z4 72 zd zhU=true:=by decide +kernel
def zhS:List Sm:=[zp 1240]
theorem zhR:zl z4 72 zd zhS=true:=by decide +kernel
def zhQ:List Sm:=[zp 1244]
theorem zhP:zl z4 72 zd zhQ=true:=by decide +kernel
def zhO:List Sm:=[zp 1248]
theorem zhN:zl z4 72 zd zhO=true:=by decide +kernel
def zhM:List Sm:=[zp 1252]
theorem zhL:zl z4 72 zd zhM=true:=by decide +kernel
def zhK:List Sm:=[zp 1256]
theorem zhJ:zl z4 72 zd zhK=true:=by decide +kernel
def zhI:List Sm:=[zp 1260]
theorem zhH:zl z4 72 zd zhI=true:=by decide +kernel
def zhG:List Sm:=[zp 1264]
theorem zhF:zl z4 72 zd zhG=true:=by decide +kernel
def zhE:List Sm:=[zp 1268]
theorem zhD:zl z4 72 zd zhE=true:=by decide +kernel
def zhC:List Sm:=[zp 1272]
theorem zhB:zl z4 72 zd zhC=true:=by decide +kernel
def zhA:List Sm:=[zp 1276]
theorem zhz:zl z4 72 zd zhA=true:=by decide +kernel
def s101_1:List Sm:=[⟨[(.one (.i .i64 1)),(.one (.w .u64 10))],[],[],(.one (.one (.i .i64 0))),[(1,(.s .u64 (.v 10)))],1⟩]
theorem zn0:zl jL 101 zd s101_1=true:=by decide +kernel
def s101_2:List Sm:=[⟨[(.one (.i .i64 2)),(.one (.w .u64 10))],[],[],(.one (.one (.i .i64 0))),[(2,(.s .u64 (.v 10)))],1⟩]
theorem znZ:zl jL 101 zd s101_2=true:=by decide +kernel
def s101_4:List Sm:=[⟨[(.one (.i .i64 4)),(.one (.w .u64 10))],[],[],(.one (.one (.i .i64 0))),[(4,(.s .u64 (.v 10)))],1⟩]
theorem znY:zl jL 101 zd s101_4=true:=by decide +kernel
def s101_8:List Sm:=[⟨[(.one (.i .i64 8)),(.one (.w .u64 10))],[],[],(.one (.one (.i .i64 0))),[(8,(.s .u64 (.v 10)))],1⟩]
theorem znX:zl jL 101 zd s101_8=true:=by decide +kernel
def zmD:List Sm:=[⟨[(.one (.i .i64 17)),(.one (.w .u64 10))],[],[],(.one (.one (.i .i64 0))),[(17,(.s .u64 (.v 10)))],1⟩]
theorem zlG:zl jL 101 zd zmD=true:=by decide +kernel
def zkh:List Sm:=[yZ 259]
theorem zkg:zl jL 101 zd zkh=true:=by decide +kernel
def zkf:List Sm:=[yZ 265]
theorem zke:zl jL 101 zd zkf=true:=by decide +kernel
def zfO:List Sm:=[yZ 1152]
theorem zgI:zl jL 101 zd zfO=true:=by decide +kernel
def zfN:List Sm:=[yZ 1160]
theorem zgH:zl jL 101 zd zfN=true:=by decide +kernel
def zfM:List Sm:=[yZ 1168]
theorem zgG:zl jL 101 zd zfM=true:=by decide +kernel
def zfL:List Sm:=[yZ 1176]
theorem zgF:zl jL 101 zd zfL=true:=by decide +kernel
def zfK:List Sm:=[yZ 1184]
theorem zgE:zl jL 101 zd zfK=true:=by decide +kernel
def zfJ:List Sm:=[yZ 1185]
theorem zgD:zl jL 101 zd zfJ=true:=by decide +kernel
def zfI:List Sm:=[yZ 1186]
theorem zgC:zl jL 101 zd zfI=true:=by decide +kernel
def zfH:List Sm:=[yZ 1187]
theorem zgB:zl jL 101 zd zfH=true:=by decide +kernel
def zfG:List Sm:=[yZ 1188]
theorem zgA:zl jL 101 zd zfG=true:=by decide +kernel
def zfF:List Sm:=[yZ 1189]
theorem zgz:zl jL 101 zd zfF=true:=by decide +kernel
def zfE:List Sm:=[yZ 1190]
theorem zgy:zl jL 101 zd zfE=true:=by decide +kernel
def zfD:List Sm:=[yZ 1191]
theorem zgx:zl jL 101 zd zfD=true:=by decide +kernel
def zfC:List Sm:=[⟨[(.one (.i .i64 1288))],[(1288,100),(1289,101)],[((.cmp .neq (.op .shr .u64 (.v 100) (.lit 34)) (.lit 0)),false),((.cmp .neq (.op .shr .u64 (.v 101) (.lit 44)) (.lit 0)),false),((.cmp .gtr (.cv .i64 (.op .shr .u64 (.op .and .u64 (.v 100) (.lit 262140)) (.lit 2))) (.lit 0)),false),((.cmp .eql (.cv .i64 (.op .shr .u64 (.op .and .u64 (.v 100) (.lit 262140)) (.lit 2))) (.lit 0)),true),((.cmp .eql (.cv .i64 (.op .shr .u64 (.op .and .u64 (.v 100) (.lit 3)) (.lit 0))) (.lit 0)),true),((.cmp .eql (.cv .i64 (.op .shr .u64 (.op .and .u64 (.v 100) (.lit 17179607040)) (.lit 18))) (.lit 0)),true),((.cmp .gtr (.cv .i64 (.op .shr .u64 (.op .and .u64 (.v 101) (.lit 268435455)) (.lit 0))) (.lit 0)),false)],(.tup [(.agg [(.i .i64 0),(.i .i64 0),(.i .i64 0),(.s .i64 (.cv .i64 (.op .shr .u64 (.op .and .u64 (.v 101) (.lit 268435455)) (.lit 0)))),(.s .i64 (.cv .i64 (.op .shr .u64 (.op .and .u64 (.v 101) (.lit 17591917608960)) (.lit 28))))]),(.one (.i .i64 0))]),[],2⟩]
theorem zgw:zl mc243 243 zd zfC=true:=by decide +kernel
def zfB:List Sm:=[⟨[(.one (.i .i64 1280))],[(1280,100)],[((.cmp .neq (.op .shr .u64 (.v 100) (.lit 34)) (.lit 0)),false),((.cmp .eql (.cv .i64 (.op .shr .u64 (.op .and .u64 (.v 100) (.lit 3)) (.lit 0))) (.lit 0)),true),((.cmp .eql (.cv .i64 (.op .shr .u64 (.op .and .u64 (.v 100) (.lit 262140)) (.lit 2))) (.lit 0)),true),((.cmp .eql (.cv .i64 (.op .shr .u64 (.op .and .u64 (.v 100) (.lit 17179607040)) (.lit 18))) (.lit 0)),true)],(.tup [(.agg [(.i .i64 0),(.i .i64 0),(.i .i64 0)]),(.one (.i .i64 0))]),[],1⟩,
 ⟨[(.one (.i .i64 1280))],[(1280,100)],[((.cmp .neq (.op .shr .u64 (.v 100) (.lit 34)) (.lit 0)),false),((.cmp .eql (.cv .i64 (.op .shr .u64 (.op .and .u64 (.v 100) (.lit 3)) (.lit 0))) (.lit 0)),false),((.cmp .leq (.cv .i64 (.op .shr .u64 (.op .and .u64 (.v 100) (.lit 3)) (.lit 0))) (.lit 2)),true),((.cmp .gtr (.cv .i64 (.op .shr .u64 (.op .and .u64 (.v 100) (.lit 262140)) (.lit 2))) (.lit 0)),true),((.cmp .gtr (.cv .i64 (.op .shr .u64 (.op .and .u64 (.v 100) (.lit 17179607040)) (.lit 18))) (.lit 0)),true)],(.tup [(.agg [(.s .i64 (.cv .i64 (.op .shr .u64 (.op .and .u64 (.v 100) (.lit 3)) (.lit 0)))),(.s .i64 (.cv .i64 (.op .shr .u64 (.op .and .u64 (.v 100) (.lit 262140)) (.lit 2)))),(.s .i64 (.cv .i64 (.op .shr .u64 (.op .and .u64 (.v 100) (.lit 17179607040)) (.lit 18))))]),(.one (.i .i64 0))]),[],1⟩]
theorem zgv:zl mc245 245 zd zfB=true:=by decide +kernel
def zfA:List Sm:=[⟨[(.one (.i .i64 1280)),(.agg [(.w .i64 10),(.w .i64 11),(.w .i64 12)])],[],[((.cmp .lss (.v 10) (.lit 0)),false),((.cmp .lss (.v 11) (.lit 0)),false),((.cmp .lss (.v 12) (.lit 0)),false),((.cmp .neq (.op .shr .u64 (.op .shl .u64 (.cv .u64 (.v 10)) (.lit 0)) (.lit 0)) (.cv .u64 (.v 10))),false),((.cmp .neq (.op .andNot .u64 (.op .shl .u64 (.cv .u64 (.v 10)) (.lit 0)) (.lit 3)) (.lit 0)),false),((.cmp .neq (.op .shr .u64 (.op .shl .u64 (.cv .u64 (.v 11)) (.lit 2)) (.lit 2)) (.cv .u64 (.v 11))),false),((.cmp .neq (.op .andNot .u64 (.op .shl .u64 (.cv .u64 (.v 11)) (.lit 2)) (.lit 262140)) (.lit 0)),false),((.cmp .neq (.op .shr .u64 (.op .shl .u64 (.cv .u64 (.v 12)) (.lit 18)) (.lit 18)) (.cv .u64 (.v 12))),false),((.cmp .neq (.op .andNot .u64 (.op .shl .u64 (.cv .u64 (.v 12)) (.lit 18)) (.lit 17179607040)) (.lit 0)),false),((.cmp .eql (.v 10) (.lit 0)),false),((.cmp .leq (.v 10) (.lit 2)),true),((.cmp .gtr (.v 11) (.lit 0)),true),((.cmp .gtr (.v 12) (.lit 0)),true)],(.one (.one (.i .i64 0))),[(1280,(.s .u64 (.op .or .u64 (.op .andNot .u64 (.op .or .u64 (.op .andNot .u64 (.op .or .u64 (.lit 0) (.op .shl .u64 (.cv .u64 (.v 10)) (.lit 0))) (.lit 262140)) (.op .shl .u64 (.cv .u64 (.v 11)) (.lit 2))) (.lit 17179607040)) (.op .shl .u64 (.cv .u64 (.v 12)) (.lit 18)))))],1⟩,
 ⟨[(.one (.i .i64 1280)),(.agg [(.w .i64 10),(.w .i64 11),(.w .i64 12)])],[],[((.cmp .lss (.v 10) (.lit 0)),false),((.cmp .lss (.v 11) (.lit 0)),false),((.cmp .lss (.v 12) (.lit 0)),false),((.cmp .neq (.op .shr .u64 (.op .shl .u64 (.cv .u64 (.v 10)) (.lit 0)) (.lit 0)) (.cv .u64 (.v 10))),false),((.cmp .neq (.op .andNot .u64 (.op .shl .u64 (.cv .u64 (.v 10)) (.lit 0)) (.lit 3)) (.lit 0)),false),((.cmp .neq (.op .shr .u64 (.op .shl .u64 (.cv .u64 (.v 11)) (.lit 2)) (.lit 2)) (.cv .u64 (.v 11))),false),((.cmp .neq (.op .andNot .u64 (.op .shl .u64 (.cv .u64 (.v 11)) (.lit 2)) (.lit 262140)) (.lit 0)),false),((.cmp .neq (.op .shr .u64 (.op .shl .u64 (.cv .u64 (.v 12)) (.lit 18)) (.lit 18)) (.cv .u64 (.v 12))),false),((.cmp .neq (.op .andNot .u64 (.op .shl .u64 (.cv .u64 (.v 12)) (.lit 18)) (.lit 17179607040)) (.lit 0)),false),((.cmp .eql (.v 10) (.lit 0)),true),((.cmp .eql (.v 10) (.lit 0)),true),((.cmp .eql (.v 11) (.lit 0)),true),((.cmp .eql (.v 12) (.lit 0)),true)],(.one (.one (.i .i64 0))),[(1280,(.i .u64 0))],1⟩]
theorem zgu:zl mc291 291 zd zfA=true:=by decide +kernel
end Go.Ev.X
end
