import Derived.Test.YtcohamkngfehlaaGreatDoorSD0
set_option linter.unusedSimpArgs false
set_option linter.unusedVariables false
set_option maxRecDepth 100000
noncomputable section
namespace Go.Ev.X
open Go Go.Ev
def zkQ:List Sm:=[⟨[(.one (.i .i64 1024))],[(1040,100),(1041,101),(1042,102),(1043,103),(1056,104),(1057,105),(1058,106),(1059,107),(1060,108),(1061,109),(1062,110),(1063,111),(1064,112),(1065,113),(1066,114),(1067,115),(1068,116),(1069,117),(1070,118),(1071,119)],[((.cmp .neq (.op .shr .u64 (.v 100) (.lit 19)) (.lit 0)),false),((.cmp .neq (.op .shr .u64 (.v 101) (.lit 64)) (.lit 0)),false),((.cmp .neq (.op .shr .u64 (.v 102) (.lit 28)) (.lit 0)),false),((.cmp .neq (.op .shr .u64 (.v 103) (.lit 64)) (.lit 0)),false),((.cmp .gtr (.cv .i64 (.op .shr .u64 (.op .and .u64 (.v 100) (.lit 7)) (.lit 0))) (.lit 5)),false),((.cmp .gtr (.cv .i64 (.op .shr .u64 (.op .and .u64 (.v 100) (.lit 14336)) (.lit 11))) (.lit 5)),false)],(.tup [(.agg [(.s .i64 (.cv .i64 (.op .shr .u64 (.op .and .u64 (.v 100) (.lit 7)) (.lit 0)))),(.s .i64 (.cv .i64 (.op .shr .u64 (.op .and .u64 (.v 100) (.lit 2040)) (.lit 3)))),(.s .i64 (.cv .i64 (.op .shr .u64 (.op .and .u64 (.v 100) (.lit 14336)) (.lit 11)))),(.c (.cmp .eql (.cv .i64 (.op .shr .u64 (.op .and .u64 (.v 100) (.lit 16384)) (.lit 14))) (.lit 1))),(.s .i64 (.cv .i64 (.op .shr .u64 (.op .and .u64 (.v 101) (.lit 65535)) (.lit 0)))),(.s .i64 (.cv .i64 (.op .shr .u64 (.op .and .u64 (.v 101) (.lit 4294901760)) (.lit 16)))),(.s .i64 (.cv .i64 (.op .shr .u64 (.op .and .u64 (.v 101) (.lit 281470681743360)) (.lit 32)))),(.s .i64 (.cv .i64 (.op .shr .u64 (.op .and .u64 (.v 102) (.lit 268435455)) (.lit 0)))),(.c (.cmp .eql (.cv .i64 (.op .shr .u64 (.op .and .u64 (.v 100) (.lit 32768)) (.lit 15))) (.lit 1))),(.c (.cmp .eql (.cv .i64 (.op .shr .u64 (.op .and .u64 (.v 100) (.lit 65536)) (.lit 16))) (.lit 1))),(.s .i64 (.cv .i64 (.op .shr .u64 (.op .and .u64 (.v 101) (.lit 18446462598732840960)) (.lit 48)))),(.s .i64 (.cv .i64 (.op .shr .u64 (.op .and .u64 (.v 103) (.lit 4294967295)) (.lit 0)))),(.s .i64 (.cv .i64 (.op .shr .u64 (.op .and .u64 (.v 100) (.lit 393216)) (.lit 17)))),(.s .i64 (.cv .i64 (.op .shr .u64 (.op .and .u64 (.v 103) (.lit 18446744069414584320)) (.lit 32)))),(.s .u64 (.v 104)),(.s .u64 (.v 105)),(.s .u64 (.v 106)),(.s .u64 (.v 107)),(.s .u64 (.v 108)),(.s .u64 (.v 109)),(.s .u64 (.v 110)),(.s .u64 (.v 111)),(.s .u64 (.v 112)),(.s .u64 (.v 113)),(.s .u64 (.v 114)),(.s .u64 (.v 115)),(.s .u64 (.v 116)),(.s .u64 (.v 117)),(.s .u64 (.v 118)),(.s .u64 (.v 119))]),(.one (.i .i64 0))]),[],20⟩]
theorem zkP:zl mc15 15 zd zkQ=true:=by decide +kernel
def zkO:List Sm:=[⟨[(.one (.i .i64 1088))],[(1104,100),(1105,101),(1106,102),(1107,103),(1120,104),(1121,105),(1122,106),(1123,107),(1124,108),(1125,109),(1126,110),(1127,111),(1128,112),(1129,113),(1130,114),(1131,115),(1132,116),(1133,117),(1134,118),(1135,119)],[((.cmp .neq (.op .shr .u64 (.v 100) (.lit 19)) (.lit 0)),false),((.cmp .neq (.op .shr .u64 (.v 101) (.lit 64)) (.lit 0)),false),((.cmp .neq (.op .shr .u64 (.v 102) (.lit 28)) (.lit 0)),false),((.cmp .neq (.op .shr .u64 (.v 103) (.lit 64)) (.lit 0)),false),((.cmp .gtr (.cv .i64 (.op .shr .u64 (.op .and .u64 (.v 100) (.lit 7)) (.lit 0))) (.lit 5)),false),((.cmp .gtr (.cv .i64 (.op .shr .u64 (.op .and .u64 (.v 100) (.lit 14336)) (.lit 11))) (.lit 5)),false)],(.tup [(.agg [(.s .i64 (.cv .i64 (.op .shr .u64 (.op .and .u64 (.v 100) (.lit 7)) (.lit 0)))),(.s .i64 (.cv .i64 (.op .shr .u64 (.op .and .u64 (.v 100) (.lit 2040)) (.lit 3)))),(.s .i64 (.cv .i64 (.op .shr .u64 (.op .and .u64 (.v 100) (.lit 14336)) (.lit 11)))),(.c (.cmp .eql (.cv .i64 (.op .shr .u64 (.op .and .u64 (.v 100) (.lit 16384)) (.lit 14))) (.lit 1))),(.s .i64 (.cv .i64 (.op .shr .u64 (.op .and .u64 (.v 101) (.lit 65535)) (.lit 0)))),(.s .i64 (.cv .i64 (.op .shr .u64 (.op .and .u64 (.v 101) (.lit 4294901760)) (.lit 16)))),(.s .i64 (.cv .i64 (.op .shr .u64 (.op .and .u64 (.v 101) (.lit 281470681743360)) (.lit 32)))),(.s .i64 (.cv .i64 (.op .shr .u64 (.op .and .u64 (.v 102) (.lit 268435455)) (.lit 0)))),(.c (.cmp .eql (.cv .i64 (.op .shr .u64 (.op .and .u64 (.v 100) (.lit 32768)) (.lit 15))) (.lit 1))),(.c (.cmp .eql (.cv .i64 (.op .shr .u64 (.op .and .u64 (.v 100) (.lit 65536)) (.lit 16))) (.lit 1))),(.s .i64 (.cv .i64 (.op .shr .u64 (.op .and .u64 (.v 101) (.lit 18446462598732840960)) (.lit 48)))),(.s .i64 (.cv .i64 (.op .shr .u64 (.op .and .u64 (.v 103) (.lit 4294967295)) (.lit 0)))),(.s .i64 (.cv .i64 (.op .shr .u64 (.op .and .u64 (.v 100) (.lit 393216)) (.lit 17)))),(.s .i64 (.cv .i64 (.op .shr .u64 (.op .and .u64 (.v 103) (.lit 18446744069414584320)) (.lit 32)))),(.s .u64 (.v 104)),(.s .u64 (.v 105)),(.s .u64 (.v 106)),(.s .u64 (.v 107)),(.s .u64 (.v 108)),(.s .u64 (.v 109)),(.s .u64 (.v 110)),(.s .u64 (.v 111)),(.s .u64 (.v 112)),(.s .u64 (.v 113)),(.s .u64 (.v 114)),(.s .u64 (.v 115)),(.s .u64 (.v 116)),(.s .u64 (.v 117)),(.s .u64 (.v 118)),(.s .u64 (.v 119))]),(.one (.i .i64 0))]),[],20⟩]
theorem zkN:zl mc15 15 zd zkO=true:=by decide +kernel
def s37_1:List Sm:=[⟨[(.one (.i .i64 1))],[(1,100)],[],(.tup [(.one (.s .u64 (.v 100))),(.one (.i .i64 0))]),[],1⟩]
theorem zp4:zl zb2 37 zd s37_1=true:=by decide +kernel
def s37_2:List Sm:=[⟨[(.one (.i .i64 2))],[(2,100)],[],(.tup [(.one (.s .u64 (.v 100))),(.one (.i .i64 0))]),[],1⟩]
theorem zp3:zl zb2 37 zd s37_2=true:=by decide +kernel
def s37_4:List Sm:=[⟨[(.one (.i .i64 4))],[(4,100)],[],(.tup [(.one (.s .u64 (.v 100))),(.one (.i .i64 0))]),[],1⟩]
theorem zp2:zl zb2 37 zd s37_4=true:=by decide +kernel
def s37_8:List Sm:=[⟨[(.one (.i .i64 8))],[(8,100)],[],(.tup [(.one (.s .u64 (.v 100))),(.one (.i .i64 0))]),[],1⟩]
theorem zp1:zl zb2 37 zd s37_8=true:=by decide +kernel
def s37_17:List Sm:=[⟨[(.one (.i .i64 17))],[(17,100)],[],(.tup [(.one (.s .u64 (.v 100))),(.one (.i .i64 0))]),[],1⟩]
theorem zos:zl zb2 37 zd s37_17=true:=by decide +kernel
def znh:List Sm:=[zbd 265]
theorem zmi:zl zb2 37 zd znh=true:=by decide +kernel
def zkM:List Sm:=[zbd 1296]
theorem zkL:zl zb2 37 zd zkM=true:=by decide +kernel
def zkK:List Sm:=[zbd 1297]
theorem zkJ:zl zb2 37 zd zkK=true:=by decide +kernel
def zkI:List Sm:=[zbd 1298]
theorem zkH:zl zb2 37 zd zkI=true:=by decide +kernel
def zkG:List Sm:=[zbd 1299]
theorem zkF:zl zb2 37 zd zkG=true:=by decide +kernel
def zkE:List Sm:=[zbd 1300]
theorem zkD:zl zb2 37 zd zkE=true:=by decide +kernel
def zkC:List Sm:=[zbd 1301]
theorem zkB:zl zb2 37 zd zkC=true:=by decide +kernel
def zkA:List Sm:=[zbd 1302]
theorem zkz:zl zb2 37 zd zkA=true:=by decide +kernel
def zky:List Sm:=[zbd 1303]
theorem zkx:zl zb2 37 zd zky=true:=by decide +kernel
def s48_32:List Sm:=[tm48_1 32]
theorem zor:zl y0 48 zd s48_32=true:=by decide +kernel
def s48_36:List Sm:=[tm48_1 36]
theorem zoq:zl y0 48 zd s48_36=true:=by decide +kernel
def s48_60:List Sm:=[⟨[(.one (.i .i64 60)),(.agg [(.w .i64 10),(.w .i64 11),(.i .i64 0),(.w .i64 12),(.w .i64 13),(.i .i64 0),(.w .i64 14),(.w .i64 15),(.w .i64 16),(.w .i64 17),(.w .i64 18),(.w .i64 19),(.w .i64 20),(.w .i64 21)])],[],[((.cmp .eql (.v 10) (.lit 0)),false),((.cmp .eql (.v 10) (.lit 1)),false),((.cmp .eql (.v 10) (.lit 2)),false),((.cmp .eql (.v 10) (.lit 10)),false),((.cmp .eql (.v 10) (.lit 3)),false),((.cmp .eql (.v 10) (.lit 9)),false),((.cmp .eql (.v 10) (.lit 4)),false),((.cmp .eql (.v 10) (.lit 5)),false),((.cmp .eql (.v 10) (.lit 6)),false),((.cmp .eql (.v 10) (.lit 7)),true),((.cmp .eql (.v 10) (.lit 7)),true),((.cmp .eql (.v 12) (.lit 0)),true),((.cmp .eql (.v 13) (.lit 0)),true),((.cmp .eql (.v 14) (.lit 0)),true),((.cmp .eql (.v 15) (.lit 0)),true),((.cmp .eql (.v 17) (.lit 0)),true),((.cmp .eql (.v 18) (.lit 0)),true),((.cmp .lss (.v 11) (.lit 1024)),false),((.cmp .gtr (.v 11) (.lit 65535)),false),((.cmp .neq (.op .rem .i64 (.v 11) (.lit 8)) (.lit 0)),false),((.cmp .geq (.v 16) (.lit 0)),true),((.cmp .leq (.v 16) (.lit 63)),true),((.cmp .eql (.op .rem .i64 (.v 16) (.lit 8)) (.lit 0)),true),((.cmp .geq (.v 19) (.lit 0)),true),((.cmp .lss (.v 19) (.lit 65536)),true),((.cmp .eql (.op .rem .i64 (.v 19) (.lit 4)) (.lit 0)),true),((.cmp .geq (.v 20) (.lit 0)),true),((.cmp .lss (.v 20) (.lit 65536)),true),((.cmp .eql (.op .rem .i64 (.v 20) (.lit 4)) (.lit 0)),true),((.cmp .geq (.v 21) (.lit 0)),true),((.cmp .lss (.v 21) (.lit 65536)),true),((.cmp .neq (.op .shr .u64 (.op .shl .u64 (.cv .u64 (.v 11)) (.lit 4)) (.lit 4)) (.cv .u64 (.v 11))),false),((.cmp .neq (.op .andNot .u64 (.op .shl .u64 (.cv .u64 (.v 11)) (.lit 4)) (.lit 1048560)) (.lit 0)),false),((.cmp .neq (.op .shr .u64 (.op .shl .u64 (.cv .u64 (.v 16)) (.lit 32)) (.lit 32)) (.cv .u64 (.v 16))),false),((.cmp .neq (.op .andNot .u64 (.op .shl .u64 (.cv .u64 (.v 16)) (.lit 32)) (.lit 270582939648)) (.lit 0)),false),((.cmp .neq (.op .shr .u64 (.op .shl .u64 (.cv .u64 (.v 19)) (.lit 0)) (.lit 0)) (.cv .u64 (.v 19))),false),((.cmp .neq (.op .andNot .u64 (.op .shl .u64 (.cv .u64 (.v 19)) (.lit 0)) (.lit 65535)) (.lit 0)),false),((.cmp .neq (.op .shr .u64 (.op .shl .u64 (.cv .u64 (.v 20)) (.lit 16)) (.lit 16)) (.cv .u64 (.v 20))),false),((.cmp .neq (.op .andNot .u64 (.op .shl .u64 (.cv .u64 (.v 20)) (.lit 16)) (.lit 4294901760)) (.lit 0)),false),((.cmp .neq (.op .shr .u64 (.op .shl .u64 (.cv .u64 (.v 21)) (.lit 32)) (.lit 32)) (.cv .u64 (.v 21))),false),((.cmp .neq (.op .andNot .u64 (.op .shl .u64 (.cv .u64 (.v 21)) (.lit 32)) (.lit 281470681743360)) (.lit 0)),false)],(.one (.one (.i .i64 0))),[(60,(.s .u64 (.op .or .u64 (.op .andNot .u64 (.op .or .u64 (.op .andNot .u64 (.op .or .u64 (.op .andNot .u64 (.op .or .u64 (.op .andNot .u64 (.op .or .u64 (.op .andNot .u64 (.op .or .u64 (.lit 7) (.op .shl .u64 (.cv .u64 (.v 11)) (.lit 4))) (.lit 32505856)) (.lit 0)) (.lit 234881024)) (.lit 0)) (.lit 4026531840)) (.lit 0)) (.lit 270582939648)) (.op .shl .u64 (.cv .u64 (.v 16)) (.lit 32))) (.lit 8521215115264)) (.lit 0)))),(62,(.s .u64 (.op .or .u64 (.op .andNot .u64 (.op .or .u64 (.op .andNot .u64 (.op .or .u64 (.lit 0) (.op .shl .u64 (.cv .u64 (.v 19)) (.lit 0))) (.lit 4294901760)) (.op .shl .u64 (.cv .u64 (.v 20)) (.lit 16))) (.lit 281470681743360)) (.op .shl .u64 (.cv .u64 (.v 21)) (.lit 32))))),(61,(.i .u64 0)),(63,(.i .u64 0))],4⟩]
theorem zop:zl y0 48 zd s48_60=true:=by decide +kernel
def zkw:List Sm:=[tm48_2 1024,
 ⟨[(.one (.i .i64 1024)),(.agg [(.w .i64 10),(.w .i64 11),(.i .i64 3),(.w .i64 12),(.w .i64 13),(.i .i64 29),(.w .i64 14),(.w .i64 15),(.w .i64 16),(.w .i64 17),(.w .i64 18),(.w .i64 19),(.w .i64 20),(.w .i64 21)])],[],[((.cmp .eql (.v 10) (.lit 0)),false),((.cmp .eql (.v 10) (.lit 1)),false),((.cmp .eql (.v 10) (.lit 2)),true),((.cmp .eql (.v 10) (.lit 2)),true),((.cmp .eql (.v 12) (.lit 0)),true),((.cmp .eql (.v 14) (.lit 0)),true),((.cmp .eql (.v 15) (.lit 0)),true),((.cmp .eql (.v 16) (.lit 0)),true),((.cmp .eql (.v 17) (.lit 0)),true),((.cmp .eql (.v 18) (.lit 0)),true),((.cmp .lss (.v 11) (.lit 1024)),false),((.cmp .gtr (.v 11) (.lit 65535)),false),((.cmp .neq (.op .rem .i64 (.v 11) (.lit 32)) (.lit 0)),false),((.cmp .geq (.v 13) (.lit 0)),true),((.cmp .leq (.v 13) (.lit 536870911)),true),((.cmp .geq (.v 19) (.lit 0)),true),((.cmp .lss (.v 19) (.lit 65536)),true),((.cmp .eql (.op .rem .i64 (.v 19) (.lit 4)) (.lit 0)),true),((.cmp .geq (.v 20) (.lit 0)),true),((.cmp .lss (.v 20) (.lit 65536)),true),((.cmp .eql (.op .rem .i64 (.v 20) (.lit 4)) (.lit 0)),true),((.cmp .geq (.v 21) (.lit 0)),true),((.cmp .lss (.v 21) (.lit 65536)),true),((.cmp .neq (.op .shr .u64 (.op .shl .u64 (.cv .u64 (.v 11)) (.lit 4)) (.lit 4)) (.cv .u64 (.v 11))),false),((.cmp .neq (.op .andNot .u64 (.op .shl .u64 (.cv .u64 (.v 11)) (.lit 4)) (.lit 1048560)) (.lit 0)),false),((.cmp .neq (.op .shr .u64 (.op .shl .u64 (.cv .u64 (.v 19)) (.lit 0)) (.lit 0)) (.cv .u64 (.v 19))),false),((.cmp .neq (.op .andNot .u64 (.op .shl .u64 (.cv .u64 (.v 19)) (.lit 0)) (.lit 65535)) (.lit 0)),false),((.cmp .neq (.op .shr .u64 (.op .shl .u64 (.cv .u64 (.v 20)) (.lit 16)) (.lit 16)) (.cv .u64 (.v 20))),false),((.cmp .neq (.op .andNot .u64 (.op .shl .u64 (.cv .u64 (.v 20)) (.lit 16)) (.lit 4294901760)) (.lit 0)),false),((.cmp .neq (.op .shr .u64 (.op .shl .u64 (.cv .u64 (.v 21)) (.lit 32)) (.lit 32)) (.cv .u64 (.v 21))),false),((.cmp .neq (.op .andNot .u64 (.op .shl .u64 (.cv .u64 (.v 21)) (.lit 32)) (.lit 281470681743360)) (.lit 0)),false)],(.one (.one (.i .i64 0))),[(1024,(.s .u64 (.op .or .u64 (.op .andNot .u64 (.op .or .u64 (.op .andNot .u64 (.op .or .u64 (.op .andNot .u64 (.op .or .u64 (.op .andNot .u64 (.op .or .u64 (.op .andNot .u64 (.op .or .u64 (.lit 2) (.op .shl .u64 (.cv .u64 (.v 11)) (.lit 4))) (.lit 32505856)) (.lit 3145728)) (.lit 234881024)) (.lit 0)) (.lit 4026531840)) (.lit 0)) (.lit 270582939648)) (.lit 0)) (.lit 8521215115264)) (.lit 7971459301376)))),(1026,(.s .u64 (.op .or .u64 (.op .andNot .u64 (.op .or .u64 (.op .andNot .u64 (.op .or .u64 (.lit 0) (.op .shl .u64 (.cv .u64 (.v 19)) (.lit 0))) (.lit 4294901760)) (.op .shl .u64 (.cv .u64 (.v 20)) (.lit 16))) (.lit 281470681743360)) (.op .shl .u64 (.cv .u64 (.v 21)) (.lit 32))))),(1025,(.s .u64 (.cv .u64 (.op .add .i64 (.op .add .i64 (.lit 0) (.v 13)) (.lit 0))))),(1027,(.i .u64 0))],4⟩]
theorem zkv:zl y0 48 zd zkw=true:=by decide +kernel
def zku:List Sm:=[tm48_2 1088,
 tm48_3 1088]
theorem zkt:zl y0 48 zd zku=true:=by decide +kernel
def zks:List Sm:=[ya 1156]
theorem zkr:zl y0 48 zd zks=true:=by decide +kernel
def zkq:List Sm:=[tm48_5 1160,
 ⟨[(.one (.i .i64 1160)),(.agg [(.w .i64 10),(.w .i64 11),(.i .i64 9),(.w .i64 12),(.w .i64 13),(.i .i64 0),(.w .i64 14),(.w .i64 15),(.w .i64 16),(.w .i64 17),(.w .i64 18),(.w .i64 19),(.w .i64 20),(.w .i64 21)])],[],[((.cmp .eql (.v 10) (.lit 0)),false),((.cmp .eql (.v 10) (.lit 1)),true),((.cmp .eql (.v 10) (.lit 1)),true),((.cmp .eql (.v 13) (.lit 0)),true),((.cmp .eql (.v 14) (.lit 0)),true),((.cmp .eql (.v 15) (.lit 0)),true),((.cmp .eql (.v 16) (.lit 0)),true),((.cmp .eql (.v 17) (.lit 0)),true),((.cmp .eql (.v 18) (.lit 0)),true),((.cmp .lss (.v 11) (.lit 1024)),false),((.cmp .gtr (.v 11) (.lit 65535)),false),((.cmp .neq (.op .rem .i64 (.v 11) (.lit 512)) (.lit 0)),false),((.cmp .geq (.v 12) (.lit 0)),true),((.cmp .leq (.v 12) (.lit 512)),true),((.cmp .geq (.v 19) (.lit 0)),true),((.cmp .lss (.v 19) (.lit 65536)),true),((.cmp .eql (.op .rem .i64 (.v 19) (.lit 4)) (.lit 0)),true),((.cmp .geq (.v 20) (.lit 0)),true),((.cmp .lss (.v 20) (.lit 65536)),true),((.cmp .eql (.op .rem .i64 (.v 20) (.lit 4)) (.lit 0)),true),((.cmp .geq (.v 21) (.lit 0)),true),((.cmp .lss (.v 21) (.lit 65536)),true),((.cmp .neq (.op .shr .u64 (.op .shl .u64 (.cv .u64 (.v 11)) (.lit 4)) (.lit 4)) (.cv .u64 (.v 11))),false),((.cmp .neq (.op .andNot .u64 (.op .shl .u64 (.cv .u64 (.v 11)) (.lit 4)) (.lit 1048560)) (.lit 0)),false),((.cmp .neq (.op .shr .u64 (.op .shl .u64 (.cv .u64 (.v 19)) (.lit 0)) (.lit 0)) (.cv .u64 (.v 19))),false),((.cmp .neq (.op .andNot .u64 (.op .shl .u64 (.cv .u64 (.v 19)) (.lit 0)) (.lit 65535)) (.lit 0)),false),((.cmp .neq (.op .shr .u64 (.op .shl .u64 (.cv .u64 (.v 20)) (.lit 16)) (.lit 16)) (.cv .u64 (.v 20))),false),((.cmp .neq (.op .andNot .u64 (.op .shl .u64 (.cv .u64 (.v 20)) (.lit 16)) (.lit 4294901760)) (.lit 0)),false),((.cmp .neq (.op .shr .u64 (.op .shl .u64 (.cv .u64 (.v 21)) (.lit 32)) (.lit 32)) (.cv .u64 (.v 21))),false),((.cmp .neq (.op .andNot .u64 (.op .shl .u64 (.cv .u64 (.v 21)) (.lit 32)) (.lit 281470681743360)) (.lit 0)),false)],(.one (.one (.i .i64 0))),[(1160,(.s .u64 (.op .or .u64 (.op .andNot .u64 (.op .or .u64 (.op .andNot .u64 (.op .or .u64 (.op .andNot .u64 (.op .or .u64 (.op .andNot .u64 (.op .or .u64 (.op .andNot .u64 (.op .or .u64 (.lit 1) (.op .shl .u64 (.cv .u64 (.v 11)) (.lit 4))) (.lit 32505856)) (.lit 9437184)) (.lit 234881024)) (.lit 0)) (.lit 4026531840)) (.lit 0)) (.lit 270582939648)) (.lit 0)) (.lit 8521215115264)) (.lit 0)))),(1162,(.s .u64 (.op .or .u64 (.op .andNot .u64 (.op .or .u64 (.op .andNot .u64 (.op .or .u64 (.lit 0) (.op .shl .u64 (.cv .u64 (.v 19)) (.lit 0))) (.lit 4294901760)) (.op .shl .u64 (.cv .u64 (.v 20)) (.lit 16))) (.lit 281470681743360)) (.op .shl .u64 (.cv .u64 (.v 21)) (.lit 32))))),(1161,(.s .u64 (.cv .u64 (.op .add .i64 (.v 12) (.lit 0))))),(1163,(.i .u64 0))],4⟩]
theorem zkp:zl y0 48 zd zkq=true:=by decide +kernel
def zko:List Sm:=[tm48_3 1164]
theorem zkn:zl y0 48 zd zko=true:=by decide +kernel
def zkm:List Sm:=[ya 1220]
theorem zkl:zl y0 48 zd zkm=true:=by decide +kernel
def zkk:List Sm:=[tm48_5 1224]
theorem zkj:zl y0 48 zd zkk=true:=by decide +kernel
def zki:List Sm:=[ya 1284]
theorem zkh:zl y0 48 zd zki=true:=by decide +kernel
def zkg:List Sm:=[ya 1288,
 yr 1288]
theorem zkf:zl y0 48 zd zkg=true:=by decide +kernel
def zke:List Sm:=[ya 1292,
 yr 1292]
theorem zkd:zl y0 48 zd zke=true:=by decide +kernel
def zkc:List Sm:=[ya 1296,
 yr 1296]
theorem zkb:zl y0 48 zd zkc=true:=by decide +kernel
def zka:List Sm:=[ya 1300,
 yr 1300]
theorem zj9:zl y0 48 zd zka=true:=by decide +kernel
def zj8:List Sm:=[ya 1304,
 yr 1304]
theorem zj7:zl y0 48 zd zj8=true:=by decide +kernel
def zj6:List Sm:=[ya 1308,
 yr 1308]
theorem zj5:zl y0 48 zd zj6=true:=by decide +kernel
def zj4:List Sm:=[ya 1312,
 yr 1312]
theorem zj3:zl y0 48 zd zj4=true:=by decide +kernel
def zj2:List Sm:=[ya 1316,
 yr 1316]
theorem zj1:zl y0 48 zd zj2=true:=by decide +kernel
def zj0:List Sm:=[ya 1320,
 yr 1320]
theorem zjZ:zl y0 48 zd zj0=true:=by decide +kernel
def zjY:List Sm:=[ya 1324,
 yr 1324]
theorem zjX:zl y0 48 zd zjY=true:=by decide +kernel
def zjW:List Sm:=[ya 1328,
 yr 1328]
theorem zjV:zl y0 48 zd zjW=true:=by decide +kernel
def zjU:List Sm:=[ya 1332,
 yr 1332]
theorem zjT:zl y0 48 zd zjU=true:=by decide +kernel
def zjS:List Sm:=[ya 1336,
 yr 1336]
theorem zjR:zl y0 48 zd zjS=true:=by decide +kernel
def zjQ:List Sm:=[ya 1340,
 yr 1340]
theorem zjP:zl y0 48 zd zjQ=true:=by decide +kernel
def zjO:List Sm:=[ya 1344,
 yr 1344]
theorem zjN:zl y0 48 zd zjO=true:=by decide +kernel
def zjM:List Sm:=[ya 1348,
 yr 1348]
theorem zjL:zl y0 48 zd zjM=true:=by decide +kernel
def zjK:List Sm:=[ya 1352,
 yr 1352]
theorem zjJ:zl y0 48 zd zjK=true:=by decide +kernel
def zjI:List Sm:=[ya 1356,
 yr 1356]
theorem zjH:zl y0 48 zd zjI=true:=by decide +kernel
def zjG:List Sm:=[ya 1360,
 yr 1360]
theorem zjF:zl y0 48 zd zjG=true:=by decide +kernel
def zjE:List Sm:=[ya 1364,
 yr 1364]
theorem zjD:zl y0 48 zd zjE=true:=by decide +kernel
def zjC:List Sm:=[ya 1368,
 yr 1368]
theorem zjB:zl y0 48 zd zjC=true:=by decide +kernel
def zjA:List Sm:=[ya 1372,
 yr 1372]
theorem zjz:zl y0 48 zd zjA=true:=by decide +kernel
def zjy:List Sm:=[ya 1376,
 yr 1376]
theorem zjx:zl y0 48 zd zjy=true:=by decide +kernel
def zjw:List Sm:=[ya 1380,
 yr 1380]
theorem zjv:zl y0 48 zd zjw=true:=by decide +kernel
def zju:List Sm:=[ya 1384,
 yr 1384]
theorem zjt:zl y0 48 zd zju=true:=by decide +kernel
def zjs:List Sm:=[ya 1388,
 yr 1388]
theorem zjr:zl y0 48 zd zjs=true:=by decide +kernel
def zjq:List Sm:=[ya 1392,
 yr 1392]
theorem zjp:zl y0 48 zd zjq=true:=by decide +kernel
def zjo:List Sm:=[ya 1396,
 yr 1396]
theorem zjn:zl y0 48 zd zjo=true:=by decide +kernel
def zjm:List Sm:=[ya 1400,
 yr 1400]
theorem zjl:zl y0 48 zd zjm=true:=by decide +kernel
def zjk:List Sm:=[ya 1404,
 yr 1404]
theorem zjj:zl y0 48 zd zjk=true:=by decide +kernel
def zji:List Sm:=[⟨[(.one (.i .i64 1024)),(.agg [(.w .i64 10),(.w .i64 11),(.w .i64 12),(.b false),(.w .i64 13),(.w .i64 14),(.w .i64 15),(.w .i64 16),(.b false),(.b false),(.w .i64 17),(.w .i64 18),(.w .i64 19),(.w .i64 20),(.w .u64 21),(.w .u64 22),(.w .u64 23),(.w .u64 24),(.w .u64 25),(.w .u64 26),(.w .u64 27),(.w .u64 28),(.w .u64 29),(.w .u64 30),(.w .u64 31),(.w .u64 32),(.w .u64 33),(.w .u64 34),(.w .u64 35),(.w .u64 36)])],[],[((.cmp .lss (.v 10) (.lit 0)),false),((.cmp .lss (.v 11) (.lit 0)),false),((.cmp .lss (.v 12) (.lit 0)),false),((.cmp .lss (.v 19) (.lit 0)),false),((.cmp .neq (.op .shr .u64 (.op .shl .u64 (.cv .u64 (.v 10)) (.lit 0)) (.lit 0)) (.cv .u64 (.v 10))),false),((.cmp .neq (.op .andNot .u64 (.op .shl .u64 (.cv .u64 (.v 10)) (.lit 0)) (.lit 7)) (.lit 0)),false),((.cmp .neq (.op .shr .u64 (.op .shl .u64 (.cv .u64 (.v 11)) (.lit 3)) (.lit 3)) (.cv .u64 (.v 11))),false),((.cmp .neq (.op .andNot .u64 (.op .shl .u64 (.cv .u64 (.v 11)) (.lit 3)) (.lit 2040)) (.lit 0)),false),((.cmp .neq (.op .shr .u64 (.op .shl .u64 (.cv .u64 (.v 12)) (.lit 11)) (.lit 11)) (.cv .u64 (.v 12))),false),((.cmp .neq (.op .andNot .u64 (.op .shl .u64 (.cv .u64 (.v 12)) (.lit 11)) (.lit 14336)) (.lit 0)),false),((.cmp .neq (.op .shr .u64 (.op .shl .u64 (.cv .u64 (.v 19)) (.lit 17)) (.lit 17)) (.cv .u64 (.v 19))),false),((.cmp .neq (.op .andNot .u64 (.op .shl .u64 (.cv .u64 (.v 19)) (.lit 17)) (.lit 393216)) (.lit 0)),false),((.cmp .lss (.v 13) (.lit 0)),false),((.cmp .lss (.v 14) (.lit 0)),false),((.cmp .lss (.v 15) (.lit 0)),false),((.cmp .lss (.v 17) (.lit 0)),false),((.cmp .neq (.op .shr .u64 (.op .shl .u64 (.cv .u64 (.v 13)) (.lit 0)) (.lit 0)) (.cv .u64 (.v 13))),false),((.cmp .neq (.op .andNot .u64 (.op .shl .u64 (.cv .u64 (.v 13)) (.lit 0)) (.lit 65535)) (.lit 0)),false),((.cmp .neq (.op .shr .u64 (.op .shl .u64 (.cv .u64 (.v 14)) (.lit 16)) (.lit 16)) (.cv .u64 (.v 14))),false),((.cmp .neq (.op .andNot .u64 (.op .shl .u64 (.cv .u64 (.v 14)) (.lit 16)) (.lit 4294901760)) (.lit 0)),false),((.cmp .neq (.op .shr .u64 (.op .shl .u64 (.cv .u64 (.v 15)) (.lit 32)) (.lit 32)) (.cv .u64 (.v 15))),false),((.cmp .neq (.op .andNot .u64 (.op .shl .u64 (.cv .u64 (.v 15)) (.lit 32)) (.lit 281470681743360)) (.lit 0)),false),((.cmp .neq (.op .shr .u64 (.op .shl .u64 (.cv .u64 (.v 17)) (.lit 48)) (.lit 48)) (.cv .u64 (.v 17))),false),((.cmp .neq (.op .andNot .u64 (.op .shl .u64 (.cv .u64 (.v 17)) (.lit 48)) (.lit 18446462598732840960)) (.lit 0)),false),((.cmp .lss (.v 16) (.lit 0)),false),((.cmp .neq (.op .shr .u64 (.op .shl .u64 (.cv .u64 (.v 16)) (.lit 0)) (.lit 0)) (.cv .u64 (.v 16))),false),((.cmp .neq (.op .andNot .u64 (.op .shl .u64 (.cv .u64 (.v 16)) (.lit 0)) (.lit 268435455)) (.lit 0)),false),((.cmp .lss (.v 18) (.lit 0)),false),((.cmp .lss (.v 20) (.lit 0)),false),((.cmp .neq (.op .shr .u64 (.op .shl .u64 (.cv .u64 (.v 18)) (.lit 0)) (.lit 0)) (.cv .u64 (.v 18))),false),((.cmp .neq (.op .andNot .u64 (.op .shl .u64 (.cv .u64 (.v 18)) (.lit 0)) (.lit 4294967295)) (.lit 0)),false),((.cmp .neq (.op .shr .u64 (.op .shl .u64 (.cv .u64 (.v 20)) (.lit 32)) (.lit 32)) (.cv .u64 (.v 20))),false),((.cmp .neq (.op .andNot .u64 (.op .shl .u64 (.cv .u64 (.v 20)) (.lit 32)) (.lit 18446744069414584320)) (.lit 0)),false),((.cmp .leq (.v 10) (.lit 5)),true),((.cmp .leq (.v 12) (.lit 5)),true)],(.one (.one (.i .i64 0))),[(1056,(.s .u64 (.v 21))),(1040,(.s .u64 (.op .or .u64 (.op .andNot .u64 (.op .or .u64 (.op .andNot .u64 (.op .or .u64 (.op .andNot .u64 (.op .or .u64 (.op .andNot .u64 (.op .or .u64 (.op .andNot .u64 (.op .or .u64 (.op .andNot .u64 (.op .or .u64 (.lit 0) (.op .shl .u64 (.cv .u64 (.v 10)) (.lit 0))) (.lit 2040)) (.op .shl .u64 (.cv .u64 (.v 11)) (.lit 3))) (.lit 14336)) (.op .shl .u64 (.cv .u64 (.v 12)) (.lit 11))) (.lit 16384)) (.lit 0)) (.lit 32768)) (.lit 0)) (.lit 65536)) (.lit 0)) (.lit 393216)) (.op .shl .u64 (.cv .u64 (.v 19)) (.lit 17))))),(1064,(.s .u64 (.v 29))),(1060,(.s .u64 (.v 25))),(1068,(.s .u64 (.v 33))),(1058,(.s .u64 (.v 23))),(1042,(.s .u64 (.op .or .u64 (.lit 0) (.op .shl .u64 (.cv .u64 (.v 16)) (.lit 0))))),(1066,(.s .u64 (.v 31))),(1062,(.s .u64 (.v 27))),(1070,(.s .u64 (.v 35))),(1057,(.s .u64 (.v 22))),(1041,(.s .u64 (.op .or .u64 (.op .andNot .u64 (.op .or .u64 (.op .andNot .u64 (.op .or .u64 (.op .andNot .u64 (.op .or .u64 (.lit 0) (.op .shl .u64 (.cv .u64 (.v 13)) (.lit 0))) (.lit 4294901760)) (.op .shl .u64 (.cv .u64 (.v 14)) (.lit 16))) (.lit 281470681743360)) (.op .shl .u64 (.cv .u64 (.v 15)) (.lit 32))) (.lit 18446462598732840960)) (.op .shl .u64 (.cv .u64 (.v 17)) (.lit 48))))),(1065,(.s .u64 (.v 30))),(1061,(.s .u64 (.v 26))),(1069,(.s .u64 (.v 34))),(1059,(.s .u64 (.v 24))),(1043,(.s .u64 (.op .or .u64 (.op .andNot .u64 (.op .or .u64 (.lit 0) (.op .shl .u64 (.cv .u64 (.v 18)) (.lit 0))) (.lit 18446744069414584320)) (.op .shl .u64 (.cv .u64 (.v 20)) (.lit 32))))),(1067,(.s .u64 (.v 32))),(1063,(.s .u64 (.v 28))),(1071,(.s .u64 (.v 36)))],20⟩,
 ⟨[(.one (.i .i64 1024)),(.agg [(.w .i64 10),(.w .i64 11),(.w .i64 12),(.b true),(.w .i64 13),(.w .i64 14),(.w .i64 15),(.w .i64 16),(.b false),(.b false),(.w .i64 17),(.w .i64 18),(.w .i64 19),(.w .i64 20),(.w .u64 21),(.w .u64 22),(.w .u64 23),(.w .u64 24),(.w .u64 25),(.w .u64 26),(.w .u64 27),(.w .u64 28),(.w .u64 29),(.w .u64 30),(.w .u64 31),(.w .u64 32),(.w .u64 33),(.w .u64 34),(.w .u64 35),(.w .u64 36)])],[],[((.cmp .lss (.v 10) (.lit 0)),false),((.cmp .lss (.v 11) (.lit 0)),false),((.cmp .lss (.v 12) (.lit 0)),false),((.cmp .lss (.v 19) (.lit 0)),false),((.cmp .neq (.op .shr .u64 (.op .shl .u64 (.cv .u64 (.v 10)) (.lit 0)) (.lit 0)) (.cv .u64 (.v 10))),false),((.cmp .neq (.op .andNot .u64 (.op .shl .u64 (.cv .u64 (.v 10)) (.lit 0)) (.lit 7)) (.lit 0)),false),((.cmp .neq (.op .shr .u64 (.op .shl .u64 (.cv .u64 (.v 11)) (.lit 3)) (.lit 3)) (.cv .u64 (.v 11))),false),((.cmp .neq (.op .andNot .u64 (.op .shl .u64 (.cv .u64 (.v 11)) (.lit 3)) (.lit 2040)) (.lit 0)),false),((.cmp .neq (.op .shr .u64 (.op .shl .u64 (.cv .u64 (.v 12)) (.lit 11)) (.lit 11)) (.cv .u64 (.v 12))),false),((.cmp .neq (.op .andNot .u64 (.op .shl .u64 (.cv .u64 (.v 12)) (.lit 11)) (.lit 14336)) (.lit 0)),false),((.cmp .neq (.op .shr .u64 (.op .shl .u64 (.cv .u64 (.v 19)) (.lit 17)) (.lit 17)) (.cv .u64 (.v 19))),false),((.cmp .neq (.op .andNot .u64 (.op .shl .u64 (.cv .u64 (.v 19)) (.lit 17)) (.lit 393216)) (.lit 0)),false),((.cmp .lss (.v 13) (.lit 0)),false),((.cmp .lss (.v 14) (.lit 0)),false),((.cmp .lss (.v 15) (.lit 0)),false),((.cmp .lss (.v 17) (.lit 0)),false),((.cmp .neq (.op .shr .u64 (.op .shl .u64 (.cv .u64 (.v 13)) (.lit 0)) (.lit 0)) (.cv .u64 (.v 13))),false),((.cmp .neq (.op .andNot .u64 (.op .shl .u64 (.cv .u64 (.v 13)) (.lit 0)) (.lit 65535)) (.lit 0)),false),((.cmp .neq (.op .shr .u64 (.op .shl .u64 (.cv .u64 (.v 14)) (.lit 16)) (.lit 16)) (.cv .u64 (.v 14))),false),((.cmp .neq (.op .andNot .u64 (.op .shl .u64 (.cv .u64 (.v 14)) (.lit 16)) (.lit 4294901760)) (.lit 0)),false),((.cmp .neq (.op .shr .u64 (.op .shl .u64 (.cv .u64 (.v 15)) (.lit 32)) (.lit 32)) (.cv .u64 (.v 15))),false),((.cmp .neq (.op .andNot .u64 (.op .shl .u64 (.cv .u64 (.v 15)) (.lit 32)) (.lit 281470681743360)) (.lit 0)),false),((.cmp .neq (.op .shr .u64 (.op .shl .u64 (.cv .u64 (.v 17)) (.lit 48)) (.lit 48)) (.cv .u64 (.v 17))),false),((.cmp .neq (.op .andNot .u64 (.op .shl .u64 (.cv .u64 (.v 17)) (.lit 48)) (.lit 18446462598732840960)) (.lit 0)),false),((.cmp .lss (.v 16) (.lit 0)),false),((.cmp .neq (.op .shr .u64 (.op .shl .u64 (.cv .u64 (.v 16)) (.lit 0)) (.lit 0)) (.cv .u64 (.v 16))),false),((.cmp .neq (.op .andNot .u64 (.op .shl .u64 (.cv .u64 (.v 16)) (.lit 0)) (.lit 268435455)) (.lit 0)),false),((.cmp .lss (.v 18) (.lit 0)),false),((.cmp .lss (.v 20) (.lit 0)),false),((.cmp .neq (.op .shr .u64 (.op .shl .u64 (.cv .u64 (.v 18)) (.lit 0)) (.lit 0)) (.cv .u64 (.v 18))),false),((.cmp .neq (.op .andNot .u64 (.op .shl .u64 (.cv .u64 (.v 18)) (.lit 0)) (.lit 4294967295)) (.lit 0)),false),((.cmp .neq (.op .shr .u64 (.op .shl .u64 (.cv .u64 (.v 20)) (.lit 32)) (.lit 32)) (.cv .u64 (.v 20))),false),((.cmp .neq (.op .andNot .u64 (.op .shl .u64 (.cv .u64 (.v 20)) (.lit 32)) (.lit 18446744069414584320)) (.lit 0)),false),((.cmp .leq (.v 10) (.lit 5)),true),((.cmp .leq (.v 12) (.lit 5)),true)],(.one (.one (.i .i64 0))),[(1056,(.s .u64 (.v 21))),(1040,(.s .u64 (.op .or .u64 (.op .andNot .u64 (.op .or .u64 (.op .andNot .u64 (.op .or .u64 (.op .andNot .u64 (.op .or .u64 (.op .andNot .u64 (.op .or .u64 (.op .andNot .u64 (.op .or .u64 (.op .andNot .u64 (.op .or .u64 (.lit 0) (.op .shl .u64 (.cv .u64 (.v 10)) (.lit 0))) (.lit 2040)) (.op .shl .u64 (.cv .u64 (.v 11)) (.lit 3))) (.lit 14336)) (.op .shl .u64 (.cv .u64 (.v 12)) (.lit 11))) (.lit 16384)) (.lit 16384)) (.lit 32768)) (.lit 0)) (.lit 65536)) (.lit 0)) (.lit 393216)) (.op .shl .u64 (.cv .u64 (.v 19)) (.lit 17))))),(1064,(.s .u64 (.v 29))),(1060,(.s .u64 (.v 25))),(1068,(.s .u64 (.v 33))),(1058,(.s .u64 (.v 23))),(1042,(.s .u64 (.op .or .u64 (.lit 0) (.op .shl .u64 (.cv .u64 (.v 16)) (.lit 0))))),(1066,(.s .u64 (.v 31))),(1062,(.s .u64 (.v 27))),(1070,(.s .u64 (.v 35))),(1057,(.s .u64 (.v 22))),(1041,(.s .u64 (.op .or .u64 (.op .andNot .u64 (.op .or .u64 (.op .andNot .u64 (.op .or .u64 (.op .andNot .u64 (.op .or .u64 (.lit 0) (.op .shl .u64 (.cv .u64 (.v 13)) (.lit 0))) (.lit 4294901760)) (.op .shl .u64 (.cv .u64 (.v 14)) (.lit 16))) (.lit 281470681743360)) (.op .shl .u64 (.cv .u64 (.v 15)) (.lit 32))) (.lit 18446462598732840960)) (.op .shl .u64 (.cv .u64 (.v 17)) (.lit 48))))),(1065,(.s .u64 (.v 30))),(1061,(.s .u64 (.v 26))),(1069,(.s .u64 (.v 34))),(1059,(.s .u64 (.v 24))),(1043,(.s .u64 (.op .or .u64 (.op .andNot .u64 (.op .or .u64 (.lit 0) (.op .shl .u64 (.cv .u64 (.v 18)) (.lit 0))) (.lit 18446744069414584320)) (.op .shl .u64 (.cv .u64 (.v 20)) (.lit 32))))),(1067,(.s .u64 (.v 32))),(1063,(.s .u64 (.v 28))),(1071,(.s .u64 (.v 36)))],20⟩]
theorem zjh:zl mc52 52 zd zji=true:=by decide +kernel
def zjg:List Sm:=[⟨[(.one (.i .i64 1088)),(.agg [(.w .i64 10),(.w .i64 11),(.w .i64 12),(.b false),(.w .i64 13),(.w .i64 14),(.w .i64 15),(.w .i64 16),(.b false),(.b false),(.w .i64 17),(.w .i64 18),(.w .i64 19),(.w .i64 20),(.w .u64 21),(.w .u64 22),(.w .u64 23),(.w .u64 24),(.w .u64 25),(.w .u64 26),(.w .u64 27),(.w .u64 28),(.w .u64 29),(.w .u64 30),(.w .u64 31),(.w .u64 32),(.w .u64 33),(.w .u64 34),(.w .u64 35),(.w .u64 36)])],[],[((.cmp .lss (.v 10) (.lit 0)),false),((.cmp .lss (.v 11) (.lit 0)),false),((.cmp .lss (.v 12) (.lit 0)),false),((.cmp .lss (.v 19) (.lit 0)),false),((.cmp .neq (.op .shr .u64 (.op .shl .u64 (.cv .u64 (.v 10)) (.lit 0)) (.lit 0)) (.cv .u64 (.v 10))),false),((.cmp .neq (.op .andNot .u64 (.op .shl .u64 (.cv .u64 (.v 10)) (.lit 0)) (.lit 7)) (.lit 0)),false),((.cmp .neq (.op .shr .u64 (.op .shl .u64 (.cv .u64 (.v 11)) (.lit 3)) (.lit 3)) (.cv .u64 (.v 11))),false),((.cmp .neq (.op .andNot .u64 (.op .shl .u64 (.cv .u64 (.v 11)) (.lit 3)) (.lit 2040)) (.lit 0)),false),((.cmp .neq (.op .shr .u64 (.op .shl .u64 (.cv .u64 (.v 12)) (.lit 11)) (.lit 11)) (.cv .u64 (.v 12))),false),((.cmp .neq (.op .andNot .u64 (.op .shl .u64 (.cv .u64 (.v 12)) (.lit 11)) (.lit 14336)) (.lit 0)),false),((.cmp .neq (.op .shr .u64 (.op .shl .u64 (.cv .u64 (.v 19)) (.lit 17)) (.lit 17)) (.cv .u64 (.v 19))),false),((.cmp .neq (.op .andNot .u64 (.op .shl .u64 (.cv .u64 (.v 19)) (.lit 17)) (.lit 393216)) (.lit 0)),false),((.cmp .lss (.v 13) (.lit 0)),false),((.cmp .lss (.v 14) (.lit 0)),false),((.cmp .lss (.v 15) (.lit 0)),false),((.cmp .lss (.v 17) (.lit 0)),false),((.cmp .neq (.op .shr .u64 (.op .shl .u64 (.cv .u64 (.v 13)) (.lit 0)) (.lit 0)) (.cv .u64 (.v 13))),false),((.cmp .neq (.op .andNot .u64 (.op .shl .u64 (.cv .u64 (.v 13)) (.lit 0)) (.lit 65535)) (.lit 0)),false),((.cmp .neq (.op .shr .u64 (.op .shl .u64 (.cv .u64 (.v 14)) (.lit 16)) (.lit 16)) (.cv .u64 (.v 14))),false),((.cmp .neq (.op .andNot .u64 (.op .shl .u64 (.cv .u64 (.v 14)) (.lit 16)) (.lit 4294901760)) (.lit 0)),false),((.cmp .neq (.op .shr .u64 (.op .shl .u64 (.cv .u64 (.v 15)) (.lit 32)) (.lit 32)) (.cv .u64 (.v 15))),false),((.cmp .neq (.op .andNot .u64 (.op .shl .u64 (.cv .u64 (.v 15)) (.lit 32)) (.lit 281470681743360)) (.lit 0)),false),((.cmp .neq (.op .shr .u64 (.op .shl .u64 (.cv .u64 (.v 17)) (.lit 48)) (.lit 48)) (.cv .u64 (.v 17))),false),((.cmp .neq (.op .andNot .u64 (.op .shl .u64 (.cv .u64 (.v 17)) (.lit 48)) (.lit 18446462598732840960)) (.lit 0)),false),((.cmp .lss (.v 16) (.lit 0)),false),((.cmp .neq (.op .shr .u64 (.op .shl .u64 (.cv .u64 (.v 16)) (.lit 0)) (.lit 0)) (.cv .u64 (.v 16))),false),((.cmp .neq (.op .andNot .u64 (.op .shl .u64 (.cv .u64 (.v 16)) (.lit 0)) (.lit 268435455)) (.lit 0)),false),((.cmp .lss (.v 18) (.lit 0)),false),((.cmp .lss (.v 20) (.lit 0)),false),((.cmp .neq (.op .shr .u64 (.op .shl .u64 (.cv .u64 (.v 18)) (.lit 0)) (.lit 0)) (.cv .u64 (.v 18))),false),((.cmp .neq (.op .andNot .u64 (.op .shl .u64 (.cv .u64 (.v 18)) (.lit 0)) (.lit 4294967295)) (.lit 0)),false),((.cmp .neq (.op .shr .u64 (.op .shl .u64 (.cv .u64 (.v 20)) (.lit 32)) (.lit 32)) (.cv .u64 (.v 20))),false),((.cmp .neq (.op .andNot .u64 (.op .shl .u64 (.cv .u64 (.v 20)) (.lit 32)) (.lit 18446744069414584320)) (.lit 0)),false),((.cmp .leq (.v 10) (.lit 5)),true),((.cmp .leq (.v 12) (.lit 5)),true)],(.one (.one (.i .i64 0))),[(1120,(.s .u64 (.v 21))),(1104,(.s .u64 (.op .or .u64 (.op .andNot .u64 (.op .or .u64 (.op .andNot .u64 (.op .or .u64 (.op .andNot .u64 (.op .or .u64 (.op .andNot .u64 (.op .or .u64 (.op .andNot .u64 (.op .or .u64 (.op .andNot .u64 (.op .or .u64 (.lit 0) (.op .shl .u64 (.cv .u64 (.v 10)) (.lit 0))) (.lit 2040)) (.op .shl .u64 (.cv .u64 (.v 11)) (.lit 3))) (.lit 14336)) (.op .shl .u64 (.cv .u64 (.v 12)) (.lit 11))) (.lit 16384)) (.lit 0)) (.lit 32768)) (.lit 0)) (.lit 65536)) (.lit 0)) (.lit 393216)) (.op .shl .u64 (.cv .u64 (.v 19)) (.lit 17))))),(1128,(.s .u64 (.v 29))),(1124,(.s .u64 (.v 25))),(1132,(.s .u64 (.v 33))),(1122,(.s .u64 (.v 23))),(1106,(.s .u64 (.op .or .u64 (.lit 0) (.op .shl .u64 (.cv .u64 (.v 16)) (.lit 0))))),(1130,(.s .u64 (.v 31))),(1126,(.s .u64 (.v 27))),(1134,(.s .u64 (.v 35))),(1121,(.s .u64 (.v 22))),(1105,(.s .u64 (.op .or .u64 (.op .andNot .u64 (.op .or .u64 (.op .andNot .u64 (.op .or .u64 (.op .andNot .u64 (.op .or .u64 (.lit 0) (.op .shl .u64 (.cv .u64 (.v 13)) (.lit 0))) (.lit 4294901760)) (.op .shl .u64 (.cv .u64 (.v 14)) (.lit 16))) (.lit 281470681743360)) (.op .shl .u64 (.cv .u64 (.v 15)) (.lit 32))) (.lit 18446462598732840960)) (.op .shl .u64 (.cv .u64 (.v 17)) (.lit 48))))),(1129,(.s .u64 (.v 30))),(1125,(.s .u64 (.v 26))),(1133,(.s .u64 (.v 34))),(1123,(.s .u64 (.v 24))),(1107,(.s .u64 (.op .or .u64 (.op .andNot .u64 (.op .or .u64 (.lit 0) (.op .shl .u64 (.cv .u64 (.v 18)) (.lit 0))) (.lit 18446744069414584320)) (.op .shl .u64 (.cv .u64 (.v 20)) (.lit 32))))),(1131,(.s .u64 (.v 32))),(1127,(.s .u64 (.v 28))),(1135,(.s .u64 (.v 36)))],20⟩,
 ⟨[(.one (.i .i64 1088)),(.agg [(.w .i64 10),(.w .i64 11),(.w .i64 12),(.b true),(.w .i64 13),(.w .i64 14),(.w .i64 15),(.w .i64 16),(.b false),(.b false),(.w .i64 17),(.w .i64 18),(.w .i64 19),(.w .i64 20),(.w .u64 21),(.w .u64 22),(.w .u64 23),(.w .u64 24),(.w .u64 25),(.w .u64 26),(.w .u64 27),(.w .u64 28),(.w .u64 29),(.w .u64 30),(.w .u64 31),(.w .u64 32),(.w .u64 33),(.w .u64 34),(.w .u64 35),(.w .u64 36)])],[],[((.cmp .lss (.v 10) (.lit 0)),false),((.cmp .lss (.v 11) (.lit 0)),false),((.cmp .lss (.v 12) (.lit 0)),false),((.cmp .lss (.v 19) (.lit 0)),false),((.cmp .neq (.op .shr .u64 (.op .shl .u64 (.cv .u64 (.v 10)) (.lit 0)) (.lit 0)) (.cv .u64 (.v 10))),false),((.cmp .neq (.op .andNot .u64 (.op .shl .u64 (.cv .u64 (.v 10)) (.lit 0)) (.lit 7)) (.lit 0)),false),((.cmp .neq (.op .shr .u64 (.op .shl .u64 (.cv .u64 (.v 11)) (.lit 3)) (.lit 3)) (.cv .u64 (.v 11))),false),((.cmp .neq (.op .andNot .u64 (.op .shl .u64 (.cv .u64 (.v 11)) (.lit 3)) (.lit 2040)) (.lit 0)),false),((.cmp .neq (.op .shr .u64 (.op .shl .u64 (.cv .u64 (.v 12)) (.lit 11)) (.lit 11)) (.cv .u64 (.v 12))),false),((.cmp .neq (.op .andNot .u64 (.op .shl .u64 (.cv .u64 (.v 12)) (.lit 11)) (.lit 14336)) (.lit 0)),false),((.cmp .neq (.op .shr .u64 (.op .shl .u64 (.cv .u64 (.v 19)) (.lit 17)) (.lit 17)) (.cv .u64 (.v 19))),false),((.cmp .neq (.op .andNot .u64 (.op .shl .u64 (.cv .u64 (.v 19)) (.lit 17)) (.lit 393216)) (.lit 0)),false),((.cmp .lss (.v 13) (.lit 0)),false),((.cmp .lss (.v 14) (.lit 0)),false),((.cmp .lss (.v 15) (.lit 0)),false),((.cmp .lss (.v 17) (.lit 0)),false),((.cmp .neq (.op .shr .u64 (.op .shl .u64 (.cv .u64 (.v 13)) (.lit 0)) (.lit 0)) (.cv .u64 (.v 13))),false),((.cmp .neq (.op .andNot .u64 (.op .shl .u64 (.cv .u64 (.v 13)) (.lit 0)) (.lit 65535)) (.lit 0)),false),((.cmp .neq (.op .shr .u64 (.op .shl .u64 (.cv .u64 (.v 14)) (.lit 16)) (.lit 16)) (.cv .u64 (.v 14))),false),((.cmp .neq (.op .andNot .u64 (.op .shl .u64 (.cv .u64 (.v 14)) (.lit 16)) (.lit 4294901760)) (.lit 0)),false),((.cmp .neq (.op .shr .u64 (.op .shl .u64 (.cv .u64 (.v 15)) (.lit 32)) (.lit 32)) (.cv .u64 (.v 15))),false),((.cmp .neq (.op .andNot .u64 (.op .shl .u64 (.cv .u64 (.v 15)) (.lit 32)) (.lit 281470681743360)) (.lit 0)),false),((.cmp .neq (.op .shr .u64 (.op .shl .u64 (.cv .u64 (.v 17)) (.lit 48)) (.lit 48)) (.cv .u64 (.v 17))),false),((.cmp .neq (.op .andNot .u64 (.op .shl .u64 (.cv .u64 (.v 17)) (.lit 48)) (.lit 18446462598732840960)) (.lit 0)),false),((.cmp .lss (.v 16) (.lit 0)),false),((.cmp .neq (.op .shr .u64 (.op .shl .u64 (.cv .u64 (.v 16)) (.lit 0)) (.lit 0)) (.cv .u64 (.v 16))),false),((.cmp .neq (.op .andNot .u64 (.op .shl .u64 (.cv .u64 (.v 16)) (.lit 0)) (.lit 268435455)) (.lit 0)),false),((.cmp .lss (.v 18) (.lit 0)),false),((.cmp .lss (.v 20) (.lit 0)),false),((.cmp .neq (.op .shr .u64 (.op .shl .u64 (.cv .u64 (.v 18)) (.lit 0)) (.lit 0)) (.cv .u64 (.v 18))),false),((.cmp .neq (.op .andNot .u64 (.op .shl .u64 (.cv .u64 (.v 18)) (.lit 0)) (.lit 4294967295)) (.lit 0)),false),((.cmp .neq (.op .shr .u64 (.op .shl .u64 (.cv .u64 (.v 20)) (.lit 32)) (.lit 32)) (.cv .u64 (.v 20))),false),((.cmp .neq (.op .andNot .u64 (.op .shl .u64 (.cv .u64 (.v 20)) (.lit 32)) (.lit 18446744069414584320)) (.lit 0)),false),((.cmp .leq (.v 10) (.lit 5)),true),((.cmp .leq (.v 12) (.lit 5)),true)],(.one (.one (.i .i64 0))),[(1120,(.s .u64 (.v 21))),(1104,(.s .u64 (.op .or .u64 (.op .andNot .u64 (.op .or .u64 (.op .andNot .u64 (.op .or .u64 (.op .andNot .u64 (.op .or .u64 (.op .andNot .u64 (.op .or .u64 (.op .andNot .u64 (.op .or .u64 (.op .andNot .u64 (.op .or .u64 (.lit 0) (.op .shl .u64 (.cv .u64 (.v 10)) (.lit 0))) (.lit 2040)) (.op .shl .u64 (.cv .u64 (.v 11)) (.lit 3))) (.lit 14336)) (.op .shl .u64 (.cv .u64 (.v 12)) (.lit 11))) (.lit 16384)) (.lit 16384)) (.lit 32768)) (.lit 0)) (.lit 65536)) (.lit 0)) (.lit 393216)) (.op .shl .u64 (.cv .u64 (.v 19)) (.lit 17))))),(1128,(.s .u64 (.v 29))),(1124,(.s .u64 (.v 25))),(1132,(.s .u64 (.v 33))),(1122,(.s .u64 (.v 23))),(1106,(.s .u64 (.op .or .u64 (.lit 0) (.op .shl .u64 (.cv .u64 (.v 16)) (.lit 0))))),(1130,(.s .u64 (.v 31))),(1126,(.s .u64 (.v 27))),(1134,(.s .u64 (.v 35))),(1121,(.s .u64 (.v 22))),(1105,(.s .u64 (.op .or .u64 (.op .andNot .u64 (.op .or .u64 (.op .andNot .u64 (.op .or .u64 (.op .andNot .u64 (.op .or .u64 (.lit 0) (.op .shl .u64 (.cv .u64 (.v 13)) (.lit 0))) (.lit 4294901760)) (.op .shl .u64 (.cv .u64 (.v 14)) (.lit 16))) (.lit 281470681743360)) (.op .shl .u64 (.cv .u64 (.v 15)) (.lit 32))) (.lit 18446462598732840960)) (.op .shl .u64 (.cv .u64 (.v 17)) (.lit 48))))),(1129,(.s .u64 (.v 30))),(1125,(.s .u64 (.v 26))),(1133,(.s .u64 (.v 34))),(1123,(.s .u64 (.v 24))),(1107,(.s .u64 (.op .or .u64 (.op .andNot .u64 (.op .or .u64 (.lit 0) (.op .shl .u64 (.cv .u64 (.v 18)) (.lit 0))) (.lit 18446744069414584320)) (.op .shl .u64 (.cv .u64 (.v 20)) (.lit 32))))),(1131,(.s .u64 (.v 32))),(1127,(.s .u64 (.v 28))),(1135,(.s .u64 (.v 36)))],20⟩]
theorem zjf:zl mc52 52 zd zjg=true:=by decide +kernel
def s72_32:List Sm:=[tm72_7 32]
theorem zoo:zl zr 72 zd s72_32=true:=by decide +kernel
def s72_36:List Sm:=[tm72_7 36]
theorem zon:zl zr 72 zd s72_36=true:=by decide +kernel
def s72_40:List Sm:=[zk 40]
theorem zom:zl zr 72 zd s72_40=true:=by decide +kernel
def s72_44:List Sm:=[zk 44]
theorem zol:zl zr 72 zd s72_44=true:=by decide +kernel
def s72_48:List Sm:=[zk 48]
theorem zok:zl zr 72 zd s72_48=true:=by decide +kernel
def s72_52:List Sm:=[zk 52]
theorem zoj:zl zr 72 zd s72_52=true:=by decide +kernel
def s72_56:List Sm:=[zk 56]
theorem zoi:zl zr 72 zd s72_56=true:=by decide +kernel
def s72_60:List Sm:=[⟨[(.one (.i .i64 60))],[(60,100),(61,101),(62,102),(63,103)],[((.cmp .eql (.op .shr .u64 (.op .and .u64 (.v 100) (.lit 32505856)) (.lit 20)) (.lit 0)),true),((.cmp .eql (.op .shr .u64 (.op .and .u64 (.v 100) (.lit 8521215115264)) (.lit 38)) (.lit 0)),true),((.cmp .neq (.op .shr .u64 (.v 100) (.lit 43)) (.lit 0)),false),((.cmp .geq (.v 101) (.lit 4294967296)),false),((.cmp .eql (.cv .i64 (.op .shr .u64 (.op .and .u64 (.v 100) (.lit 15)) (.lit 0))) (.lit 2)),false),((.cmp .eql (.cv .i64 (.op .shr .u64 (.op .and .u64 (.v 100) (.lit 15)) (.lit 0))) (.lit 4)),false),((.cmp .eql (.cv .i64 (.op .shr .u64 (.op .and .u64 (.v 100) (.lit 15)) (.lit 0))) (.lit 5)),false),((.cmp .eql (.cv .i64 (.op .shr .u64 (.op .and .u64 (.v 100) (.lit 15)) (.lit 0))) (.lit 6)),false),((.cmp .eql (.cv .i64 (.op .shr .u64 (.op .and .u64 (.v 100) (.lit 15)) (.lit 0))) (.lit 8)),false),((.cmp .eql (.cv .i64 (.op .shr .u64 (.op .and .u64 (.v 100) (.lit 15)) (.lit 0))) (.lit 1)),false),((.cmp .eql (.cv .i64 (.op .shr .u64 (.op .and .u64 (.v 100) (.lit 15)) (.lit 0))) (.lit 10)),false),((.cmp .eql (.cv .i64 (.op .shr .u64 (.op .and .u64 (.v 100) (.lit 15)) (.lit 0))) (.lit 3)),false),((.cmp .eql (.cv .i64 (.op .shr .u64 (.op .and .u64 (.v 100) (.lit 15)) (.lit 0))) (.lit 9)),false),((.cmp .eql (.cv .i64 (.op .shr .u64 (.op .and .u64 (.v 100) (.lit 15)) (.lit 0))) (.lit 7)),true),((.cmp .eql (.cv .i64 (.v 101)) (.lit 0)),true),((.cmp .eql (.cv .i64 (.op .shr .u64 (.op .and .u64 (.v 100) (.lit 234881024)) (.lit 25))) (.lit 0)),true),((.cmp .eql (.cv .i64 (.op .shr .u64 (.op .and .u64 (.v 100) (.lit 4026531840)) (.lit 28))) (.lit 0)),true),((.cmp .lss (.cv .i64 (.op .shr .u64 (.op .and .u64 (.v 100) (.lit 1048560)) (.lit 4))) (.lit 1024)),false),((.cmp .gtr (.cv .i64 (.op .shr .u64 (.op .and .u64 (.v 100) (.lit 1048560)) (.lit 4))) (.lit 65535)),false),((.cmp .neq (.op .rem .i64 (.cv .i64 (.op .shr .u64 (.op .and .u64 (.v 100) (.lit 1048560)) (.lit 4))) (.lit 8)) (.lit 0)),false),((.cmp .geq (.cv .i64 (.op .shr .u64 (.op .and .u64 (.v 100) (.lit 270582939648)) (.lit 32))) (.lit 0)),true),((.cmp .leq (.cv .i64 (.op .shr .u64 (.op .and .u64 (.v 100) (.lit 270582939648)) (.lit 32))) (.lit 63)),true),((.cmp .eql (.op .rem .i64 (.cv .i64 (.op .shr .u64 (.op .and .u64 (.v 100) (.lit 270582939648)) (.lit 32))) (.lit 8)) (.lit 0)),true),((.cmp .neq (.op .shr .u64 (.v 102) (.lit 48)) (.lit 0)),false),((.cmp .neq (.v 103) (.lit 0)),false),((.cmp .geq (.cv .i64 (.op .shr .u64 (.op .and .u64 (.v 102) (.lit 65535)) (.lit 0))) (.lit 0)),true),((.cmp .lss (.cv .i64 (.op .shr .u64 (.op .and .u64 (.v 102) (.lit 65535)) (.lit 0))) (.lit 65536)),true),((.cmp .eql (.op .rem .i64 (.cv .i64 (.op .shr .u64 (.op .and .u64 (.v 102) (.lit 65535)) (.lit 0))) (.lit 4)) (.lit 0)),true),((.cmp .geq (.cv .i64 (.op .shr .u64 (.op .and .u64 (.v 102) (.lit 4294901760)) (.lit 16))) (.lit 0)),true),((.cmp .lss (.cv .i64 (.op .shr .u64 (.op .and .u64 (.v 102) (.lit 4294901760)) (.lit 16))) (.lit 65536)),true),((.cmp .eql (.op .rem .i64 (.cv .i64 (.op .shr .u64 (.op .and .u64 (.v 102) (.lit 4294901760)) (.lit 16))) (.lit 4)) (.lit 0)),true),((.cmp .geq (.cv .i64 (.op .shr .u64 (.op .and .u64 (.v 102) (.lit 281470681743360)) (.lit 32))) (.lit 0)),true),((.cmp .lss (.cv .i64 (.op .shr .u64 (.op .and .u64 (.v 102) (.lit 281470681743360)) (.lit 32))) (.lit 65536)),true)],(.tup [(.agg [(.i .i64 7),(.s .i64 (.cv .i64 (.op .shr .u64 (.op .and .u64 (.v 100) (.lit 1048560)) (.lit 4)))),(.i .i64 0),(.i .i64 0),(.i .i64 0),(.i .i64 0),(.i .i64 0),(.i .i64 0),(.s .i64 (.cv .i64 (.op .shr .u64 (.op .and .u64 (.v 100) (.lit 270582939648)) (.lit 32)))),(.i .i64 0),(.i .i64 0),(.s .i64 (.cv .i64 (.op .shr .u64 (.op .and .u64 (.v 102) (.lit 65535)) (.lit 0)))),(.s .i64 (.cv .i64 (.op .shr .u64 (.op .and .u64 (.v 102) (.lit 4294901760)) (.lit 16)))),(.s .i64 (.cv .i64 (.op .shr .u64 (.op .and .u64 (.v 102) (.lit 281470681743360)) (.lit 32))))]),(.one (.i .i64 0))]),[],4⟩]
theorem zoh:zl zr 72 zd s72_60=true:=by decide +kernel
end Go.Ev.X
end
set_option linter.unusedSimpArgs false
set_option linter.unusedVariables false
set_option maxRecDepth 100000
noncomputable section
namespace Go.Ev.X
open Go Go.Ev
def s72_64:List Sm:=[zk 64]
theorem zog:zl zr 72 zd s72_64=true:=by decide +kernel
def s72_68:List Sm:=[zk 68]
theorem zof:zl zr 72 zd s72_68=true:=by decide +kernel
def s72_72:List Sm:=[zk 72]
theorem zoe:zl zr 72 zd s72_72=true:=by decide +kernel
def s72_76:List Sm:=[zk 76]
theorem zod:zl zr 72 zd s72_76=true:=by decide +kernel
def s72_80:List Sm:=[zk 80]
theorem zoc:zl zr 72 zd s72_80=true:=by decide +kernel
def s72_84:List Sm:=[zk 84]
theorem zob:zl zr 72 zd s72_84=true:=by decide +kernel
def s72_88:List Sm:=[zk 88]
theorem zoa:zl zr 72 zd s72_88=true:=by decide +kernel
def s72_92:List Sm:=[zk 92]
theorem zn9:zl zr 72 zd s72_92=true:=by decide +kernel
def s72_96:List Sm:=[zk 96]
theorem zn8:zl zr 72 zd s72_96=true:=by decide +kernel
def zng:List Sm:=[zk 100]
theorem zmh:zl zr 72 zd zng=true:=by decide +kernel
def znf:List Sm:=[zk 104]
theorem zmg:zl zr 72 zd znf=true:=by decide +kernel
def zne:List Sm:=[zk 108]
theorem zmf:zl zr 72 zd zne=true:=by decide +kernel
def znd:List Sm:=[zk 112]
theorem zme:zl zr 72 zd znd=true:=by decide +kernel
def znc:List Sm:=[zk 116]
theorem zmd:zl zr 72 zd znc=true:=by decide +kernel
def znb:List Sm:=[zk 120]
theorem zmc:zl zr 72 zd znb=true:=by decide +kernel
def zna:List Sm:=[zk 124]
theorem zmb:zl zr 72 zd zna=true:=by decide +kernel
def zje:List Sm:=[tm72_9 1024,
 ⟨[(.one (.i .i64 1024))],[(1024,100),(1025,101),(1026,102),(1027,103)],[((.cmp .eql (.op .shr .u64 (.op .and .u64 (.v 100) (.lit 32505856)) (.lit 20)) (.lit 3)),true),((.cmp .eql (.op .shr .u64 (.op .and .u64 (.v 100) (.lit 8521215115264)) (.lit 38)) (.lit 29)),true),((.cmp .neq (.op .shr .u64 (.v 100) (.lit 43)) (.lit 0)),false),((.cmp .geq (.v 101) (.lit 4294967296)),false),((.cmp .eql (.cv .i64 (.op .shr .u64 (.op .and .u64 (.v 100) (.lit 15)) (.lit 0))) (.lit 2)),true),((.cmp .eql (.cv .i64 (.op .shr .u64 (.op .and .u64 (.v 100) (.lit 234881024)) (.lit 25))) (.lit 0)),true),((.cmp .eql (.cv .i64 (.op .shr .u64 (.op .and .u64 (.v 100) (.lit 270582939648)) (.lit 32))) (.lit 0)),true),((.cmp .eql (.cv .i64 (.op .shr .u64 (.op .and .u64 (.v 100) (.lit 4026531840)) (.lit 28))) (.lit 0)),true),((.cmp .lss (.cv .i64 (.op .shr .u64 (.op .and .u64 (.v 100) (.lit 1048560)) (.lit 4))) (.lit 1024)),false),((.cmp .gtr (.cv .i64 (.op .shr .u64 (.op .and .u64 (.v 100) (.lit 1048560)) (.lit 4))) (.lit 65535)),false),((.cmp .neq (.op .rem .i64 (.cv .i64 (.op .shr .u64 (.op .and .u64 (.v 100) (.lit 1048560)) (.lit 4))) (.lit 32)) (.lit 0)),false),((.cmp .geq (.cv .i64 (.v 101)) (.lit 0)),true),((.cmp .leq (.cv .i64 (.v 101)) (.lit 536870911)),true),((.cmp .neq (.op .shr .u64 (.v 102) (.lit 48)) (.lit 0)),false),((.cmp .neq (.v 103) (.lit 0)),false),((.cmp .geq (.cv .i64 (.op .shr .u64 (.op .and .u64 (.v 102) (.lit 65535)) (.lit 0))) (.lit 0)),true),((.cmp .lss (.cv .i64 (.op .shr .u64 (.op .and .u64 (.v 102) (.lit 65535)) (.lit 0))) (.lit 65536)),true),((.cmp .eql (.op .rem .i64 (.cv .i64 (.op .shr .u64 (.op .and .u64 (.v 102) (.lit 65535)) (.lit 0))) (.lit 4)) (.lit 0)),true),((.cmp .geq (.cv .i64 (.op .shr .u64 (.op .and .u64 (.v 102) (.lit 4294901760)) (.lit 16))) (.lit 0)),true),((.cmp .lss (.cv .i64 (.op .shr .u64 (.op .and .u64 (.v 102) (.lit 4294901760)) (.lit 16))) (.lit 65536)),true),((.cmp .eql (.op .rem .i64 (.cv .i64 (.op .shr .u64 (.op .and .u64 (.v 102) (.lit 4294901760)) (.lit 16))) (.lit 4)) (.lit 0)),true),((.cmp .geq (.cv .i64 (.op .shr .u64 (.op .and .u64 (.v 102) (.lit 281470681743360)) (.lit 32))) (.lit 0)),true),((.cmp .lss (.cv .i64 (.op .shr .u64 (.op .and .u64 (.v 102) (.lit 281470681743360)) (.lit 32))) (.lit 65536)),true)],(.tup [(.agg [(.i .i64 2),(.s .i64 (.cv .i64 (.op .shr .u64 (.op .and .u64 (.v 100) (.lit 1048560)) (.lit 4)))),(.i .i64 3),(.i .i64 0),(.s .i64 (.cv .i64 (.v 101))),(.i .i64 29),(.i .i64 0),(.i .i64 0),(.i .i64 0),(.i .i64 0),(.i .i64 0),(.s .i64 (.cv .i64 (.op .shr .u64 (.op .and .u64 (.v 102) (.lit 65535)) (.lit 0)))),(.s .i64 (.cv .i64 (.op .shr .u64 (.op .and .u64 (.v 102) (.lit 4294901760)) (.lit 16)))),(.s .i64 (.cv .i64 (.op .shr .u64 (.op .and .u64 (.v 102) (.lit 281470681743360)) (.lit 32))))]),(.one (.i .i64 0))]),[],4⟩]
theorem zjd:zl zr 72 zd zje=true:=by decide +kernel
def zjc:List Sm:=[zk 1028]
theorem zjb:zl zr 72 zd zjc=true:=by decide +kernel
def zja:List Sm:=[zk 1032]
theorem zi9:zl zr 72 zd zja=true:=by decide +kernel
def zi8:List Sm:=[tm72_9 1088,
 zm7 1088]
theorem zi7:zl zr 72 zd zi8=true:=by decide +kernel
def zi6:List Sm:=[zk 1092]
theorem zi5:zl zr 72 zd zi6=true:=by decide +kernel
def zi4:List Sm:=[zk 1096]
theorem zi3:zl zr 72 zd zi4=true:=by decide +kernel
def zi2:List Sm:=[zk 1152]
theorem zi1:zl zr 72 zd zi2=true:=by decide +kernel
def zi0:List Sm:=[zP 1156]
theorem ziZ:zl zr 72 zd zi0=true:=by decide +kernel
def ziY:List Sm:=[zm6 1160,
 ⟨[(.one (.i .i64 1160))],[(1160,100),(1161,101),(1162,102),(1163,103)],[((.cmp .eql (.op .shr .u64 (.op .and .u64 (.v 100) (.lit 32505856)) (.lit 20)) (.lit 9)),true),((.cmp .eql (.op .shr .u64 (.op .and .u64 (.v 100) (.lit 8521215115264)) (.lit 38)) (.lit 0)),true),((.cmp .neq (.op .shr .u64 (.v 100) (.lit 43)) (.lit 0)),false),((.cmp .geq (.v 101) (.lit 4294967296)),false),((.cmp .eql (.cv .i64 (.op .shr .u64 (.op .and .u64 (.v 100) (.lit 15)) (.lit 0))) (.lit 2)),false),((.cmp .eql (.cv .i64 (.op .shr .u64 (.op .and .u64 (.v 100) (.lit 15)) (.lit 0))) (.lit 4)),false),((.cmp .eql (.cv .i64 (.op .shr .u64 (.op .and .u64 (.v 100) (.lit 15)) (.lit 0))) (.lit 5)),false),((.cmp .eql (.cv .i64 (.op .shr .u64 (.op .and .u64 (.v 100) (.lit 15)) (.lit 0))) (.lit 6)),false),((.cmp .eql (.cv .i64 (.op .shr .u64 (.op .and .u64 (.v 100) (.lit 15)) (.lit 0))) (.lit 8)),false),((.cmp .eql (.cv .i64 (.op .shr .u64 (.op .and .u64 (.v 100) (.lit 15)) (.lit 0))) (.lit 1)),true),((.cmp .eql (.cv .i64 (.op .shr .u64 (.op .and .u64 (.v 100) (.lit 234881024)) (.lit 25))) (.lit 0)),true),((.cmp .eql (.cv .i64 (.op .shr .u64 (.op .and .u64 (.v 100) (.lit 270582939648)) (.lit 32))) (.lit 0)),true),((.cmp .eql (.cv .i64 (.op .shr .u64 (.op .and .u64 (.v 100) (.lit 4026531840)) (.lit 28))) (.lit 0)),true),((.cmp .lss (.cv .i64 (.op .shr .u64 (.op .and .u64 (.v 100) (.lit 1048560)) (.lit 4))) (.lit 1024)),false),((.cmp .gtr (.cv .i64 (.op .shr .u64 (.op .and .u64 (.v 100) (.lit 1048560)) (.lit 4))) (.lit 65535)),false),((.cmp .neq (.op .rem .i64 (.cv .i64 (.op .shr .u64 (.op .and .u64 (.v 100) (.lit 1048560)) (.lit 4))) (.lit 512)) (.lit 0)),false),((.cmp .geq (.cv .i64 (.v 101)) (.lit 0)),true),((.cmp .leq (.cv .i64 (.v 101)) (.lit 512)),true),((.cmp .neq (.op .shr .u64 (.v 102) (.lit 48)) (.lit 0)),false),((.cmp .neq (.v 103) (.lit 0)),false),((.cmp .geq (.cv .i64 (.op .shr .u64 (.op .and .u64 (.v 102) (.lit 65535)) (.lit 0))) (.lit 0)),true),((.cmp .lss (.cv .i64 (.op .shr .u64 (.op .and .u64 (.v 102) (.lit 65535)) (.lit 0))) (.lit 65536)),true),((.cmp .eql (.op .rem .i64 (.cv .i64 (.op .shr .u64 (.op .and .u64 (.v 102) (.lit 65535)) (.lit 0))) (.lit 4)) (.lit 0)),true),((.cmp .geq (.cv .i64 (.op .shr .u64 (.op .and .u64 (.v 102) (.lit 4294901760)) (.lit 16))) (.lit 0)),true),((.cmp .lss (.cv .i64 (.op .shr .u64 (.op .and .u64 (.v 102) (.lit 4294901760)) (.lit 16))) (.lit 65536)),true),((.cmp .eql (.op .rem .i64 (.cv .i64 (.op .shr .u64 (.op .and .u64 (.v 102) (.lit 4294901760)) (.lit 16))) (.lit 4)) (.lit 0)),true),((.cmp .geq (.cv .i64 (.op .shr .u64 (.op .and .u64 (.v 102) (.lit 281470681743360)) (.lit 32))) (.lit 0)),true),((.cmp .lss (.cv .i64 (.op .shr .u64 (.op .and .u64 (.v 102) (.lit 281470681743360)) (.lit 32))) (.lit 65536)),true)],(.tup [(.agg [(.i .i64 1),(.s .i64 (.cv .i64 (.op .shr .u64 (.op .and .u64 (.v 100) (.lit 1048560)) (.lit 4)))),(.i .i64 9),(.s .i64 (.cv .i64 (.v 101))),(.i .i64 0),(.i .i64 0),(.i .i64 0),(.i .i64 0),(.i .i64 0),(.i .i64 0),(.i .i64 0),(.s .i64 (.cv .i64 (.op .shr .u64 (.op .and .u64 (.v 102) (.lit 65535)) (.lit 0)))),(.s .i64 (.cv .i64 (.op .shr .u64 (.op .and .u64 (.v 102) (.lit 4294901760)) (.lit 16)))),(.s .i64 (.cv .i64 (.op .shr .u64 (.op .and .u64 (.v 102) (.lit 281470681743360)) (.lit 32))))]),(.one (.i .i64 0))]),[],4⟩]
theorem ziX:zl zr 72 zd ziY=true:=by decide +kernel
def ziW:List Sm:=[zk 1164,
 zm7 1164]
theorem ziV:zl zr 72 zd ziW=true:=by decide +kernel
def ziU:List Sm:=[zk 1168]
theorem ziT:zl zr 72 zd ziU=true:=by decide +kernel
def ziS:List Sm:=[zk 1172]
theorem ziR:zl zr 72 zd ziS=true:=by decide +kernel
def ziQ:List Sm:=[zk 1176]
theorem ziP:zl zr 72 zd ziQ=true:=by decide +kernel
def ziO:List Sm:=[zk 1180]
theorem ziN:zl zr 72 zd ziO=true:=by decide +kernel
def ziM:List Sm:=[zk 1184]
theorem ziL:zl zr 72 zd ziM=true:=by decide +kernel
def ziK:List Sm:=[zk 1188]
theorem ziJ:zl zr 72 zd ziK=true:=by decide +kernel
def ziI:List Sm:=[zk 1192]
theorem ziH:zl zr 72 zd ziI=true:=by decide +kernel
def ziG:List Sm:=[zk 1196]
theorem ziF:zl zr 72 zd ziG=true:=by decide +kernel
def ziE:List Sm:=[zk 1200]
theorem ziD:zl zr 72 zd ziE=true:=by decide +kernel
def ziC:List Sm:=[zk 1204]
theorem ziB:zl zr 72 zd ziC=true:=by decide +kernel
def ziA:List Sm:=[zk 1208]
theorem ziz:zl zr 72 zd ziA=true:=by decide +kernel
def ziy:List Sm:=[zk 1212]
theorem zix:zl zr 72 zd ziy=true:=by decide +kernel
def ziw:List Sm:=[zk 1216]
theorem ziv:zl zr 72 zd ziw=true:=by decide +kernel
def ziu:List Sm:=[zP 1220]
theorem zit:zl zr 72 zd ziu=true:=by decide +kernel
def zis:List Sm:=[zm6 1224]
theorem zir:zl zr 72 zd zis=true:=by decide +kernel
def ziq:List Sm:=[zk 1228]
theorem zio:zl zr 72 zd ziq=true:=by decide +kernel
def zin:List Sm:=[zk 1232]
theorem zim:zl zr 72 zd zin=true:=by decide +kernel
def zil:List Sm:=[zk 1236]
theorem zik:zl zr 72 zd zil=true:=by decide +kernel
def zij:List Sm:=[zk 1240]
theorem zii:zl zr 72 zd zij=true:=by decide +kernel
def zih:List Sm:=[zk 1244]
theorem zig:zl zr 72 zd zih=true:=by decide +kernel
def zif:List Sm:=[zk 1248]
theorem zie:zl zr 72 zd zif=true:=by decide +kernel
def zid:List Sm:=[zk 1252]
theorem zic:zl zr 72 zd zid=true:=by decide +kernel
def zib:List Sm:=[zk 1256]
theorem zia:zl zr 72 zd zib=true:=by decide +kernel
def zh9:List Sm:=[zk 1260]
theorem zh8:zl zr 72 zd zh9=true:=by decide +kernel
def zh7:List Sm:=[zk 1264]
theorem zh6:zl zr 72 zd zh7=true:=by decide +kernel
def zh5:List Sm:=[zk 1268]
theorem zh4:zl zr 72 zd zh5=true:=by decide +kernel
def zh3:List Sm:=[zk 1272]
theorem zh2:zl zr 72 zd zh3=true:=by decide +kernel
def zh1:List Sm:=[zk 1276]
theorem zh0:zl zr 72 zd zh1=true:=by decide +kernel
def zhZ:List Sm:=[zP 1284]
theorem zhY:zl zr 72 zd zhZ=true:=by decide +kernel
def zhX:List Sm:=[zk 1288,
 zP 1288]
theorem zhW:zl zr 72 zd zhX=true:=by decide +kernel
def zhV:List Sm:=[zk 1292,
 zP 1292]
theorem zhU:zl zr 72 zd zhV=true:=by decide +kernel
def zhT:List Sm:=[zk 1296,
 zP 1296]
theorem zhS:zl zr 72 zd zhT=true:=by decide +kernel
def zhR:List Sm:=[zk 1300,
 zP 1300]
theorem zhQ:zl zr 72 zd zhR=true:=by decide +kernel
def zhP:List Sm:=[zk 1304,
 zP 1304]
theorem zhO:zl zr 72 zd zhP=true:=by decide +kernel
def zhN:List Sm:=[zk 1308,
 zP 1308]
theorem zhM:zl zr 72 zd zhN=true:=by decide +kernel
def zhL:List Sm:=[zk 1312,
 zP 1312]
theorem zhK:zl zr 72 zd zhL=true:=by decide +kernel
def zhJ:List Sm:=[zk 1316,
 zP 1316]
theorem zhI:zl zr 72 zd zhJ=true:=by decide +kernel
def zhH:List Sm:=[zk 1320,
 zP 1320]
theorem zhG:zl zr 72 zd zhH=true:=by decide +kernel
def zhF:List Sm:=[zk 1324,
 zP 1324]
theorem zhE:zl zr 72 zd zhF=true:=by decide +kernel
def zhD:List Sm:=[zk 1328,
 zP 1328]
theorem zhC:zl zr 72 zd zhD=true:=by decide +kernel
def zhB:List Sm:=[zk 1332,
 zP 1332]
theorem zhA:zl zr 72 zd zhB=true:=by decide +kernel
def zhz:List Sm:=[zk 1336,
 zP 1336]
theorem zhy:zl zr 72 zd zhz=true:=by decide +kernel
def zhx:List Sm:=[zk 1340,
 zP 1340]
theorem zhw:zl zr 72 zd zhx=true:=by decide +kernel
def zhv:List Sm:=[zk 1344,
 zP 1344]
theorem zhu:zl zr 72 zd zhv=true:=by decide +kernel
def zht:List Sm:=[zk 1348,
 zP 1348]
theorem zhs:zl zr 72 zd zht=true:=by decide +kernel
def zhr:List Sm:=[zk 1352,
 zP 1352]
theorem zhq:zl zr 72 zd zhr=true:=by decide +kernel
def zhp:List Sm:=[zk 1356,
 zP 1356]
theorem zho:zl zr 72 zd zhp=true:=by decide +kernel
def zhn:List Sm:=[zk 1360,
 zP 1360]
theorem zhm:zl zr 72 zd zhn=true:=by decide +kernel
def zhl:List Sm:=[zk 1364,
 zP 1364]
theorem zhk:zl zr 72 zd zhl=true:=by decide +kernel
def zhj:List Sm:=[zk 1368,
 zP 1368]
theorem zhi:zl zr 72 zd zhj=true:=by decide +kernel
def zhh:List Sm:=[zk 1372,
 zP 1372]
theorem zhg:zl zr 72 zd zhh=true:=by decide +kernel
def zhf:List Sm:=[zk 1376,
 zP 1376]
theorem zhe:zl zr 72 zd zhf=true:=by decide +kernel
def zhd:List Sm:=[zk 1380,
 zP 1380]
theorem zhc:zl zr 72 zd zhd=true:=by decide +kernel
def zhb:List Sm:=[zk 1384,
 zP 1384]
theorem zha:zl zr 72 zd zhb=true:=by decide +kernel
def zg9:List Sm:=[zk 1388,
 zP 1388]
theorem zg8:zl zr 72 zd zg9=true:=by decide +kernel
def zg7:List Sm:=[zk 1392,
 zP 1392]
theorem zg6:zl zr 72 zd zg7=true:=by decide +kernel
def zg5:List Sm:=[zk 1396,
 zP 1396]
theorem zg4:zl zr 72 zd zg5=true:=by decide +kernel
def zg3:List Sm:=[zk 1400,
 zP 1400]
theorem zg2:zl zr 72 zd zg3=true:=by decide +kernel
def zg1:List Sm:=[zk 1404,
 zP 1404]
theorem zg0:zl zr 72 zd zg1=true:=by decide +kernel
def s101_1:List Sm:=[⟨[(.one (.i .i64 1)),(.one (.w .u64 10))],[],[],(.one (.one (.i .i64 0))),[(1,(.s .u64 (.v 10)))],1⟩]
theorem zow:zl zdN 101 zd s101_1=true:=by decide +kernel
def s101_2:List Sm:=[⟨[(.one (.i .i64 2)),(.one (.w .u64 10))],[],[],(.one (.one (.i .i64 0))),[(2,(.s .u64 (.v 10)))],1⟩]
theorem zov:zl zdN 101 zd s101_2=true:=by decide +kernel
def s101_4:List Sm:=[⟨[(.one (.i .i64 4)),(.one (.w .u64 10))],[],[],(.one (.one (.i .i64 0))),[(4,(.s .u64 (.v 10)))],1⟩]
theorem zou:zl zdN 101 zd s101_4=true:=by decide +kernel
def s101_8:List Sm:=[⟨[(.one (.i .i64 8)),(.one (.w .u64 10))],[],[],(.one (.one (.i .i64 0))),[(8,(.s .u64 (.v 10)))],1⟩]
theorem zot:zl zdN 101 zd s101_8=true:=by decide +kernel
def zni:List Sm:=[⟨[(.one (.i .i64 17)),(.one (.w .u64 10))],[],[],(.one (.one (.i .i64 0))),[(17,(.s .u64 (.v 10)))],1⟩]
theorem zmj:zl zdN 101 zd zni=true:=by decide +kernel
def zkS:List Sm:=[⟨[(.one (.i .i64 265)),(.one (.w .u64 10))],[],[],(.one (.one (.i .i64 0))),[(265,(.s .u64 (.v 10)))],1⟩]
theorem zkR:zl zdN 101 zd zkS=true:=by decide +kernel
def zfu:List Sm:=[⟨[(.one (.i .i64 1288))],[(1288,100),(1289,101)],[((.cmp .neq (.op .shr .u64 (.v 100) (.lit 34)) (.lit 0)),false),((.cmp .neq (.op .shr .u64 (.v 101) (.lit 44)) (.lit 0)),false),((.cmp .gtr (.cv .i64 (.op .shr .u64 (.op .and .u64 (.v 100) (.lit 262140)) (.lit 2))) (.lit 0)),false),((.cmp .eql (.cv .i64 (.op .shr .u64 (.op .and .u64 (.v 100) (.lit 262140)) (.lit 2))) (.lit 0)),true),((.cmp .eql (.cv .i64 (.op .shr .u64 (.op .and .u64 (.v 100) (.lit 3)) (.lit 0))) (.lit 0)),true),((.cmp .eql (.cv .i64 (.op .shr .u64 (.op .and .u64 (.v 100) (.lit 17179607040)) (.lit 18))) (.lit 0)),true),((.cmp .gtr (.cv .i64 (.op .shr .u64 (.op .and .u64 (.v 101) (.lit 268435455)) (.lit 0))) (.lit 0)),false)],(.tup [(.agg [(.i .i64 0),(.i .i64 0),(.i .i64 0),(.s .i64 (.cv .i64 (.op .shr .u64 (.op .and .u64 (.v 101) (.lit 268435455)) (.lit 0)))),(.s .i64 (.cv .i64 (.op .shr .u64 (.op .and .u64 (.v 101) (.lit 17591917608960)) (.lit 28))))]),(.one (.i .i64 0))]),[],2⟩]
theorem zga:zl mc243 243 zd zfu=true:=by decide +kernel
def zft:List Sm:=[⟨[(.one (.i .i64 1280))],[(1280,100)],[((.cmp .neq (.op .shr .u64 (.v 100) (.lit 34)) (.lit 0)),false),((.cmp .eql (.cv .i64 (.op .shr .u64 (.op .and .u64 (.v 100) (.lit 3)) (.lit 0))) (.lit 0)),true),((.cmp .eql (.cv .i64 (.op .shr .u64 (.op .and .u64 (.v 100) (.lit 262140)) (.lit 2))) (.lit 0)),true),((.cmp .eql (.cv .i64 (.op .shr .u64 (.op .and .u64 (.v 100) (.lit 17179607040)) (.lit 18))) (.lit 0)),true)],(.tup [(.agg [(.i .i64 0),(.i .i64 0),(.i .i64 0)]),(.one (.i .i64 0))]),[],1⟩,
 ⟨[(.one (.i .i64 1280))],[(1280,100)],[((.cmp .neq (.op .shr .u64 (.v 100) (.lit 34)) (.lit 0)),false),((.cmp .eql (.cv .i64 (.op .shr .u64 (.op .and .u64 (.v 100) (.lit 3)) (.lit 0))) (.lit 0)),false),((.cmp .leq (.cv .i64 (.op .shr .u64 (.op .and .u64 (.v 100) (.lit 3)) (.lit 0))) (.lit 2)),true),((.cmp .gtr (.cv .i64 (.op .shr .u64 (.op .and .u64 (.v 100) (.lit 262140)) (.lit 2))) (.lit 0)),true),((.cmp .gtr (.cv .i64 (.op .shr .u64 (.op .and .u64 (.v 100) (.lit 17179607040)) (.lit 18))) (.lit 0)),true)],(.tup [(.agg [(.s .i64 (.cv .i64 (.op .shr .u64 (.op .and .u64 (.v 100) (.lit 3)) (.lit 0)))),(.s .i64 (.cv .i64 (.op .shr .u64 (.op .and .u64 (.v 100) (.lit 262140)) (.lit 2)))),(.s .i64 (.cv .i64 (.op .shr .u64 (.op .and .u64 (.v 100) (.lit 17179607040)) (.lit 18))))]),(.one (.i .i64 0))]),[],1⟩]
theorem zf9:zl mc245 245 zd zft=true:=by decide +kernel
def zfs:List Sm:=[⟨[(.one (.i .i64 1280)),(.agg [(.w .i64 10),(.w .i64 11),(.w .i64 12)])],[],[((.cmp .lss (.v 10) (.lit 0)),false),((.cmp .lss (.v 11) (.lit 0)),false),((.cmp .lss (.v 12) (.lit 0)),false),((.cmp .neq (.op .shr .u64 (.op .shl .u64 (.cv .u64 (.v 10)) (.lit 0)) (.lit 0)) (.cv .u64 (.v 10))),false),((.cmp .neq (.op .andNot .u64 (.op .shl .u64 (.cv .u64 (.v 10)) (.lit 0)) (.lit 3)) (.lit 0)),false),((.cmp .neq (.op .shr .u64 (.op .shl .u64 (.cv .u64 (.v 11)) (.lit 2)) (.lit 2)) (.cv .u64 (.v 11))),false),((.cmp .neq (.op .andNot .u64 (.op .shl .u64 (.cv .u64 (.v 11)) (.lit 2)) (.lit 262140)) (.lit 0)),false),((.cmp .neq (.op .shr .u64 (.op .shl .u64 (.cv .u64 (.v 12)) (.lit 18)) (.lit 18)) (.cv .u64 (.v 12))),false),((.cmp .neq (.op .andNot .u64 (.op .shl .u64 (.cv .u64 (.v 12)) (.lit 18)) (.lit 17179607040)) (.lit 0)),false),((.cmp .eql (.v 10) (.lit 0)),false),((.cmp .leq (.v 10) (.lit 2)),true),((.cmp .gtr (.v 11) (.lit 0)),true),((.cmp .gtr (.v 12) (.lit 0)),true)],(.one (.one (.i .i64 0))),[(1280,(.s .u64 (.op .or .u64 (.op .andNot .u64 (.op .or .u64 (.op .andNot .u64 (.op .or .u64 (.lit 0) (.op .shl .u64 (.cv .u64 (.v 10)) (.lit 0))) (.lit 262140)) (.op .shl .u64 (.cv .u64 (.v 11)) (.lit 2))) (.lit 17179607040)) (.op .shl .u64 (.cv .u64 (.v 12)) (.lit 18)))))],1⟩,
 ⟨[(.one (.i .i64 1280)),(.agg [(.w .i64 10),(.w .i64 11),(.w .i64 12)])],[],[((.cmp .lss (.v 10) (.lit 0)),false),((.cmp .lss (.v 11) (.lit 0)),false),((.cmp .lss (.v 12) (.lit 0)),false),((.cmp .neq (.op .shr .u64 (.op .shl .u64 (.cv .u64 (.v 10)) (.lit 0)) (.lit 0)) (.cv .u64 (.v 10))),false),((.cmp .neq (.op .andNot .u64 (.op .shl .u64 (.cv .u64 (.v 10)) (.lit 0)) (.lit 3)) (.lit 0)),false),((.cmp .neq (.op .shr .u64 (.op .shl .u64 (.cv .u64 (.v 11)) (.lit 2)) (.lit 2)) (.cv .u64 (.v 11))),false),((.cmp .neq (.op .andNot .u64 (.op .shl .u64 (.cv .u64 (.v 11)) (.lit 2)) (.lit 262140)) (.lit 0)),false),((.cmp .neq (.op .shr .u64 (.op .shl .u64 (.cv .u64 (.v 12)) (.lit 18)) (.lit 18)) (.cv .u64 (.v 12))),false),((.cmp .neq (.op .andNot .u64 (.op .shl .u64 (.cv .u64 (.v 12)) (.lit 18)) (.lit 17179607040)) (.lit 0)),false),((.cmp .eql (.v 10) (.lit 0)),true),((.cmp .eql (.v 10) (.lit 0)),true),((.cmp .eql (.v 11) (.lit 0)),true),((.cmp .eql (.v 12) (.lit 0)),true)],(.one (.one (.i .i64 0))),[(1280,(.i .u64 0))],1⟩]
theorem zf8:zl mc291 291 zd zfs=true:=by decide +kernel
end Go.Ev.X
end
