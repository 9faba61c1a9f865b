import Derived.Test.YtckgidiokbofiaaGreatDoorSD0
set_option linter.unusedSimpArgs false
set_option linter.unusedVariables false
set_option maxRecDepth 100000
noncomputable section
namespace Go.Ev.X
open Go Go.Ev
def zmd:List Sm:=[⟨[(.one (.i .i64 1088)),(.agg [(.w .i64 10),(.w .i64 11),(.w .i64 12),(.b false),(.w .i64 13),(.w .i64 14),(.w .i64 15),(.w .i64 16),(.b false),(.b false),(.w .i64 17),(.w .i64 18),(.w .i64 19),(.w .i64 20),(.w .u64 21),(.w .u64 22),(.w .u64 23),(.w .u64 24),(.w .u64 25),(.w .u64 26),(.w .u64 27),(.w .u64 28),(.w .u64 29),(.w .u64 30),(.w .u64 31),(.w .u64 32),(.w .u64 33),(.w .u64 34),(.w .u64 35),(.w .u64 36)])],[],[((.cmp .lss (.v 10) (.lit 0)),false),((.cmp .lss (.v 11) (.lit 0)),false),((.cmp .lss (.v 12) (.lit 0)),false),((.cmp .lss (.v 19) (.lit 0)),false),((.cmp .neq (.op .shr .u64 (.op .shl .u64 (.cv .u64 (.v 10)) (.lit 0)) (.lit 0)) (.cv .u64 (.v 10))),false),((.cmp .neq (.op .andNot .u64 (.op .shl .u64 (.cv .u64 (.v 10)) (.lit 0)) (.lit 7)) (.lit 0)),false),((.cmp .neq (.op .shr .u64 (.op .shl .u64 (.cv .u64 (.v 11)) (.lit 3)) (.lit 3)) (.cv .u64 (.v 11))),false),((.cmp .neq (.op .andNot .u64 (.op .shl .u64 (.cv .u64 (.v 11)) (.lit 3)) (.lit 2040)) (.lit 0)),false),((.cmp .neq (.op .shr .u64 (.op .shl .u64 (.cv .u64 (.v 12)) (.lit 11)) (.lit 11)) (.cv .u64 (.v 12))),false),((.cmp .neq (.op .andNot .u64 (.op .shl .u64 (.cv .u64 (.v 12)) (.lit 11)) (.lit 14336)) (.lit 0)),false),((.cmp .neq (.op .shr .u64 (.op .shl .u64 (.cv .u64 (.v 19)) (.lit 17)) (.lit 17)) (.cv .u64 (.v 19))),false),((.cmp .neq (.op .andNot .u64 (.op .shl .u64 (.cv .u64 (.v 19)) (.lit 17)) (.lit 393216)) (.lit 0)),false),((.cmp .lss (.v 13) (.lit 0)),false),((.cmp .lss (.v 14) (.lit 0)),false),((.cmp .lss (.v 15) (.lit 0)),false),((.cmp .lss (.v 17) (.lit 0)),false),((.cmp .neq (.op .shr .u64 (.op .shl .u64 (.cv .u64 (.v 13)) (.lit 0)) (.lit 0)) (.cv .u64 (.v 13))),false),((.cmp .neq (.op .andNot .u64 (.op .shl .u64 (.cv .u64 (.v 13)) (.lit 0)) (.lit 65535)) (.lit 0)),false),((.cmp .neq (.op .shr .u64 (.op .shl .u64 (.cv .u64 (.v 14)) (.lit 16)) (.lit 16)) (.cv .u64 (.v 14))),false),((.cmp .neq (.op .andNot .u64 (.op .shl .u64 (.cv .u64 (.v 14)) (.lit 16)) (.lit 4294901760)) (.lit 0)),false),((.cmp .neq (.op .shr .u64 (.op .shl .u64 (.cv .u64 (.v 15)) (.lit 32)) (.lit 32)) (.cv .u64 (.v 15))),false),((.cmp .neq (.op .andNot .u64 (.op .shl .u64 (.cv .u64 (.v 15)) (.lit 32)) (.lit 281470681743360)) (.lit 0)),false),((.cmp .neq (.op .shr .u64 (.op .shl .u64 (.cv .u64 (.v 17)) (.lit 48)) (.lit 48)) (.cv .u64 (.v 17))),false),((.cmp .neq (.op .andNot .u64 (.op .shl .u64 (.cv .u64 (.v 17)) (.lit 48)) (.lit 18446462598732840960)) (.lit 0)),false),((.cmp .lss (.v 16) (.lit 0)),false),((.cmp .neq (.op .shr .u64 (.op .shl .u64 (.cv .u64 (.v 16)) (.lit 0)) (.lit 0)) (.cv .u64 (.v 16))),false),((.cmp .neq (.op .andNot .u64 (.op .shl .u64 (.cv .u64 (.v 16)) (.lit 0)) (.lit 268435455)) (.lit 0)),false),((.cmp .lss (.v 18) (.lit 0)),false),((.cmp .lss (.v 20) (.lit 0)),false),((.cmp .neq (.op .shr .u64 (.op .shl .u64 (.cv .u64 (.v 18)) (.lit 0)) (.lit 0)) (.cv .u64 (.v 18))),false),((.cmp .neq (.op .andNot .u64 (.op .shl .u64 (.cv .u64 (.v 18)) (.lit 0)) (.lit 4294967295)) (.lit 0)),false),((.cmp .neq (.op .shr .u64 (.op .shl .u64 (.cv .u64 (.v 20)) (.lit 32)) (.lit 32)) (.cv .u64 (.v 20))),false),((.cmp .neq (.op .andNot .u64 (.op .shl .u64 (.cv .u64 (.v 20)) (.lit 32)) (.lit 18446744069414584320)) (.lit 0)),false),((.cmp .leq (.v 10) (.lit 5)),true),((.cmp .leq (.v 12) (.lit 5)),true)],(.one (.one (.i .i64 0))),[(1120,(.s .u64 (.v 21))),(1104,(.s .u64 (.op .or .u64 (.op .andNot .u64 (.op .or .u64 (.op .andNot .u64 (.op .or .u64 (.op .andNot .u64 (.op .or .u64 (.op .andNot .u64 (.op .or .u64 (.op .andNot .u64 (.op .or .u64 (.op .andNot .u64 (.op .or .u64 (.lit 0) (.op .shl .u64 (.cv .u64 (.v 10)) (.lit 0))) (.lit 2040)) (.op .shl .u64 (.cv .u64 (.v 11)) (.lit 3))) (.lit 14336)) (.op .shl .u64 (.cv .u64 (.v 12)) (.lit 11))) (.lit 16384)) (.lit 0)) (.lit 32768)) (.lit 0)) (.lit 65536)) (.lit 0)) (.lit 393216)) (.op .shl .u64 (.cv .u64 (.v 19)) (.lit 17))))),(1128,(.s .u64 (.v 29))),(1124,(.s .u64 (.v 25))),(1132,(.s .u64 (.v 33))),(1122,(.s .u64 (.v 23))),(1106,(.s .u64 (.op .or .u64 (.lit 0) (.op .shl .u64 (.cv .u64 (.v 16)) (.lit 0))))),(1130,(.s .u64 (.v 31))),(1126,(.s .u64 (.v 27))),(1134,(.s .u64 (.v 35))),(1121,(.s .u64 (.v 22))),(1105,(.s .u64 (.op .or .u64 (.op .andNot .u64 (.op .or .u64 (.op .andNot .u64 (.op .or .u64 (.op .andNot .u64 (.op .or .u64 (.lit 0) (.op .shl .u64 (.cv .u64 (.v 13)) (.lit 0))) (.lit 4294901760)) (.op .shl .u64 (.cv .u64 (.v 14)) (.lit 16))) (.lit 281470681743360)) (.op .shl .u64 (.cv .u64 (.v 15)) (.lit 32))) (.lit 18446462598732840960)) (.op .shl .u64 (.cv .u64 (.v 17)) (.lit 48))))),(1129,(.s .u64 (.v 30))),(1125,(.s .u64 (.v 26))),(1133,(.s .u64 (.v 34))),(1123,(.s .u64 (.v 24))),(1107,(.s .u64 (.op .or .u64 (.op .andNot .u64 (.op .or .u64 (.lit 0) (.op .shl .u64 (.cv .u64 (.v 18)) (.lit 0))) (.lit 18446744069414584320)) (.op .shl .u64 (.cv .u64 (.v 20)) (.lit 32))))),(1131,(.s .u64 (.v 32))),(1127,(.s .u64 (.v 28))),(1135,(.s .u64 (.v 36)))],20⟩,
 ⟨[(.one (.i .i64 1088)),(.agg [(.w .i64 10),(.w .i64 11),(.w .i64 12),(.b true),(.w .i64 13),(.w .i64 14),(.w .i64 15),(.w .i64 16),(.b false),(.b false),(.w .i64 17),(.w .i64 18),(.w .i64 19),(.w .i64 20),(.w .u64 21),(.w .u64 22),(.w .u64 23),(.w .u64 24),(.w .u64 25),(.w .u64 26),(.w .u64 27),(.w .u64 28),(.w .u64 29),(.w .u64 30),(.w .u64 31),(.w .u64 32),(.w .u64 33),(.w .u64 34),(.w .u64 35),(.w .u64 36)])],[],[((.cmp .lss (.v 10) (.lit 0)),false),((.cmp .lss (.v 11) (.lit 0)),false),((.cmp .lss (.v 12) (.lit 0)),false),((.cmp .lss (.v 19) (.lit 0)),false),((.cmp .neq (.op .shr .u64 (.op .shl .u64 (.cv .u64 (.v 10)) (.lit 0)) (.lit 0)) (.cv .u64 (.v 10))),false),((.cmp .neq (.op .andNot .u64 (.op .shl .u64 (.cv .u64 (.v 10)) (.lit 0)) (.lit 7)) (.lit 0)),false),((.cmp .neq (.op .shr .u64 (.op .shl .u64 (.cv .u64 (.v 11)) (.lit 3)) (.lit 3)) (.cv .u64 (.v 11))),false),((.cmp .neq (.op .andNot .u64 (.op .shl .u64 (.cv .u64 (.v 11)) (.lit 3)) (.lit 2040)) (.lit 0)),false),((.cmp .neq (.op .shr .u64 (.op .shl .u64 (.cv .u64 (.v 12)) (.lit 11)) (.lit 11)) (.cv .u64 (.v 12))),false),((.cmp .neq (.op .andNot .u64 (.op .shl .u64 (.cv .u64 (.v 12)) (.lit 11)) (.lit 14336)) (.lit 0)),false),((.cmp .neq (.op .shr .u64 (.op .shl .u64 (.cv .u64 (.v 19)) (.lit 17)) (.lit 17)) (.cv .u64 (.v 19))),false),((.cmp .neq (.op .andNot .u64 (.op .shl .u64 (.cv .u64 (.v 19)) (.lit 17)) (.lit 393216)) (.lit 0)),false),((.cmp .lss (.v 13) (.lit 0)),false),((.cmp .lss (.v 14) (.lit 0)),false),((.cmp .lss (.v 15) (.lit 0)),false),((.cmp .lss (.v 17) (.lit 0)),false),((.cmp .neq (.op .shr .u64 (.op .shl .u64 (.cv .u64 (.v 13)) (.lit 0)) (.lit 0)) (.cv .u64 (.v 13))),false),((.cmp .neq (.op .andNot .u64 (.op .shl .u64 (.cv .u64 (.v 13)) (.lit 0)) (.lit 65535)) (.lit 0)),false),((.cmp .neq (.op .shr .u64 (.op .shl .u64 (.cv .u64 (.v 14)) (.lit 16)) (.lit 16)) (.cv .u64 (.v 14))),false),((.cmp .neq (.op .andNot .u64 (.op .shl .u64 (.cv .u64 (.v 14)) (.lit 16)) (.lit 4294901760)) (.lit 0)),false),((.cmp .neq (.op .shr .u64 (.op .shl .u64 (.cv .u64 (.v 15)) (.lit 32)) (.lit 32)) (.cv .u64 (.v 15))),false),((.cmp .neq (.op .andNot .u64 (.op .shl .u64 (.cv .u64 (.v 15)) (.lit 32)) (.lit 281470681743360)) (.lit 0)),false),((.cmp .neq (.op .shr .u64 (.op .shl .u64 (.cv .u64 (.v 17)) (.lit 48)) (.lit 48)) (.cv .u64 (.v 17))),false),((.cmp .neq (.op .andNot .u64 (.op .shl .u64 (.cv .u64 (.v 17)) (.lit 48)) (.lit 18446462598732840960)) (.lit 0)),false),((.cmp .lss (.v 16) (.lit 0)),false),((.cmp .neq (.op .shr .u64 (.op .shl .u64 (.cv .u64 (.v 16)) (.lit 0)) (.lit 0)) (.cv .u64 (.v 16))),false),((.cmp .neq (.op .andNot .u64 (.op .shl .u64 (.cv .u64 (.v 16)) (.lit 0)) (.lit 268435455)) (.lit 0)),false),((.cmp .lss (.v 18) (.lit 0)),false),((.cmp .lss (.v 20) (.lit 0)),false),((.cmp .neq (.op .shr .u64 (.op .shl .u64 (.cv .u64 (.v 18)) (.lit 0)) (.lit 0)) (.cv .u64 (.v 18))),false),((.cmp .neq (.op .andNot .u64 (.op .shl .u64 (.cv .u64 (.v 18)) (.lit 0)) (.lit 4294967295)) (.lit 0)),false),((.cmp .neq (.op .shr .u64 (.op .shl .u64 (.cv .u64 (.v 20)) (.lit 32)) (.lit 32)) (.cv .u64 (.v 20))),false),((.cmp .neq (.op .andNot .u64 (.op .shl .u64 (.cv .u64 (.v 20)) (.lit 32)) (.lit 18446744069414584320)) (.lit 0)),false),((.cmp .leq (.v 10) (.lit 5)),true),((.cmp .leq (.v 12) (.lit 5)),true)],(.one (.one (.i .i64 0))),[(1120,(.s .u64 (.v 21))),(1104,(.s .u64 (.op .or .u64 (.op .andNot .u64 (.op .or .u64 (.op .andNot .u64 (.op .or .u64 (.op .andNot .u64 (.op .or .u64 (.op .andNot .u64 (.op .or .u64 (.op .andNot .u64 (.op .or .u64 (.op .andNot .u64 (.op .or .u64 (.lit 0) (.op .shl .u64 (.cv .u64 (.v 10)) (.lit 0))) (.lit 2040)) (.op .shl .u64 (.cv .u64 (.v 11)) (.lit 3))) (.lit 14336)) (.op .shl .u64 (.cv .u64 (.v 12)) (.lit 11))) (.lit 16384)) (.lit 16384)) (.lit 32768)) (.lit 0)) (.lit 65536)) (.lit 0)) (.lit 393216)) (.op .shl .u64 (.cv .u64 (.v 19)) (.lit 17))))),(1128,(.s .u64 (.v 29))),(1124,(.s .u64 (.v 25))),(1132,(.s .u64 (.v 33))),(1122,(.s .u64 (.v 23))),(1106,(.s .u64 (.op .or .u64 (.lit 0) (.op .shl .u64 (.cv .u64 (.v 16)) (.lit 0))))),(1130,(.s .u64 (.v 31))),(1126,(.s .u64 (.v 27))),(1134,(.s .u64 (.v 35))),(1121,(.s .u64 (.v 22))),(1105,(.s .u64 (.op .or .u64 (.op .andNot .u64 (.op .or .u64 (.op .andNot .u64 (.op .or .u64 (.op .andNot .u64 (.op .or .u64 (.lit 0) (.op .shl .u64 (.cv .u64 (.v 13)) (.lit 0))) (.lit 4294901760)) (.op .shl .u64 (.cv .u64 (.v 14)) (.lit 16))) (.lit 281470681743360)) (.op .shl .u64 (.cv .u64 (.v 15)) (.lit 32))) (.lit 18446462598732840960)) (.op .shl .u64 (.cv .u64 (.v 17)) (.lit 48))))),(1129,(.s .u64 (.v 30))),(1125,(.s .u64 (.v 26))),(1133,(.s .u64 (.v 34))),(1123,(.s .u64 (.v 24))),(1107,(.s .u64 (.op .or .u64 (.op .andNot .u64 (.op .or .u64 (.lit 0) (.op .shl .u64 (.cv .u64 (.v 18)) (.lit 0))) (.lit 18446744069414584320)) (.op .shl .u64 (.cv .u64 (.v 20)) (.lit 32))))),(1131,(.s .u64 (.v 32))),(1127,(.s .u64 (.v 28))),(1135,(.s .u64 (.v 36)))],20⟩]
theorem zmc:zk mc52 52 ze zmd=true:=by decide +kernel
def s71_32:List Sm:=[zpP 32]
theorem zrh:zk zy 71 ze s71_32=true:=by decide +kernel
def s71_36:List Sm:=[zpP 36]
theorem zrg:zk zy 71 ze s71_36=true:=by decide +kernel
def s71_40:List Sm:=[zg 40]
theorem zrf:zk zy 71 ze s71_40=true:=by decide +kernel
def s71_44:List Sm:=[zg 44]
theorem zre:zk zy 71 ze s71_44=true:=by decide +kernel
def s71_48:List Sm:=[zg 48]
theorem zrd:zk zy 71 ze s71_48=true:=by decide +kernel
def s71_52:List Sm:=[zg 52]
theorem zrc:zk zy 71 ze s71_52=true:=by decide +kernel
def s71_56:List Sm:=[zg 56]
theorem zrb:zk zy 71 ze s71_56=true:=by decide +kernel
def s71_60:List Sm:=[jd 60]
theorem zra:zk zy 71 ze s71_60=true:=by decide +kernel
def s71_64:List Sm:=[zg 64]
theorem zq9:zk zy 71 ze s71_64=true:=by decide +kernel
def s71_68:List Sm:=[zg 68]
theorem zq8:zk zy 71 ze s71_68=true:=by decide +kernel
def s71_72:List Sm:=[zg 72]
theorem zq7:zk zy 71 ze s71_72=true:=by decide +kernel
def s71_76:List Sm:=[zg 76]
theorem zq6:zk zy 71 ze s71_76=true:=by decide +kernel
def s71_80:List Sm:=[zg 80]
theorem zq5:zk zy 71 ze s71_80=true:=by decide +kernel
def s71_84:List Sm:=[zg 84]
theorem zq4:zk zy 71 ze s71_84=true:=by decide +kernel
def s71_88:List Sm:=[zg 88]
theorem zq3:zk zy 71 ze s71_88=true:=by decide +kernel
def s71_92:List Sm:=[zg 92]
theorem zq2:zk zy 71 ze s71_92=true:=by decide +kernel
def s71_96:List Sm:=[zg 96]
theorem zq1:zk zy 71 ze s71_96=true:=by decide +kernel
def zpZ:List Sm:=[zg 100]
theorem zoU:zk zy 71 ze zpZ=true:=by decide +kernel
def zpY:List Sm:=[zg 104]
theorem zoT:zk zy 71 ze zpY=true:=by decide +kernel
def zpX:List Sm:=[zg 108]
theorem zoS:zk zy 71 ze zpX=true:=by decide +kernel
def zpW:List Sm:=[zg 112]
theorem zoR:zk zy 71 ze zpW=true:=by decide +kernel
def zpV:List Sm:=[zg 116]
theorem zoQ:zk zy 71 ze zpV=true:=by decide +kernel
def zpU:List Sm:=[zg 120]
theorem zoP:zk zy 71 ze zpU=true:=by decide +kernel
def zpT:List Sm:=[zg 124]
theorem zoO:zk zy 71 ze zpT=true:=by decide +kernel
def zmb:List Sm:=[zpO 1024,
 ⟨[(.one (.i .i64 1024))],[(1024,100),(1025,101),(1026,102),(1027,103)],[((.cmp .eql (.op .shr .u64 (.op .and .u64 (.v 100) (.lit 32505856)) (.lit 20)) (.lit 3)),true),((.cmp .eql (.op .shr .u64 (.op .and .u64 (.v 100) (.lit 8521215115264)) (.lit 38)) (.lit 29)),true),((.cmp .neq (.op .shr .u64 (.v 100) (.lit 43)) (.lit 0)),false),((.cmp .geq (.v 101) (.lit 4294967296)),false),((.cmp .eql (.cv .i64 (.op .shr .u64 (.op .and .u64 (.v 100) (.lit 15)) (.lit 0))) (.lit 2)),true),((.cmp .eql (.cv .i64 (.op .shr .u64 (.op .and .u64 (.v 100) (.lit 234881024)) (.lit 25))) (.lit 0)),true),((.cmp .eql (.cv .i64 (.op .shr .u64 (.op .and .u64 (.v 100) (.lit 270582939648)) (.lit 32))) (.lit 0)),true),((.cmp .eql (.cv .i64 (.op .shr .u64 (.op .and .u64 (.v 100) (.lit 4026531840)) (.lit 28))) (.lit 0)),true),((.cmp .lss (.cv .i64 (.op .shr .u64 (.op .and .u64 (.v 100) (.lit 1048560)) (.lit 4))) (.lit 1024)),false),((.cmp .gtr (.cv .i64 (.op .shr .u64 (.op .and .u64 (.v 100) (.lit 1048560)) (.lit 4))) (.lit 65535)),false),((.cmp .neq (.op .rem .i64 (.cv .i64 (.op .shr .u64 (.op .and .u64 (.v 100) (.lit 1048560)) (.lit 4))) (.lit 32)) (.lit 0)),false),((.cmp .geq (.cv .i64 (.v 101)) (.lit 0)),true),((.cmp .leq (.cv .i64 (.v 101)) (.lit 536870911)),true),((.cmp .neq (.op .shr .u64 (.v 102) (.lit 48)) (.lit 0)),false),((.cmp .neq (.v 103) (.lit 0)),false),((.cmp .geq (.cv .i64 (.op .shr .u64 (.op .and .u64 (.v 102) (.lit 65535)) (.lit 0))) (.lit 0)),true),((.cmp .lss (.cv .i64 (.op .shr .u64 (.op .and .u64 (.v 102) (.lit 65535)) (.lit 0))) (.lit 65536)),true),((.cmp .eql (.op .rem .i64 (.cv .i64 (.op .shr .u64 (.op .and .u64 (.v 102) (.lit 65535)) (.lit 0))) (.lit 4)) (.lit 0)),true),((.cmp .geq (.cv .i64 (.op .shr .u64 (.op .and .u64 (.v 102) (.lit 4294901760)) (.lit 16))) (.lit 0)),true),((.cmp .lss (.cv .i64 (.op .shr .u64 (.op .and .u64 (.v 102) (.lit 4294901760)) (.lit 16))) (.lit 65536)),true),((.cmp .eql (.op .rem .i64 (.cv .i64 (.op .shr .u64 (.op .and .u64 (.v 102) (.lit 4294901760)) (.lit 16))) (.lit 4)) (.lit 0)),true),((.cmp .geq (.cv .i64 (.op .shr .u64 (.op .and .u64 (.v 102) (.lit 281470681743360)) (.lit 32))) (.lit 0)),true),((.cmp .lss (.cv .i64 (.op .shr .u64 (.op .and .u64 (.v 102) (.lit 281470681743360)) (.lit 32))) (.lit 65536)),true)],(.tup [(.agg [(.i .i64 2),(.s .i64 (.cv .i64 (.op .shr .u64 (.op .and .u64 (.v 100) (.lit 1048560)) (.lit 4)))),(.i .i64 3),(.i .i64 0),(.s .i64 (.cv .i64 (.v 101))),(.i .i64 29),(.i .i64 0),(.i .i64 0),(.i .i64 0),(.i .i64 0),(.i .i64 0),(.s .i64 (.cv .i64 (.op .shr .u64 (.op .and .u64 (.v 102) (.lit 65535)) (.lit 0)))),(.s .i64 (.cv .i64 (.op .shr .u64 (.op .and .u64 (.v 102) (.lit 4294901760)) (.lit 16)))),(.s .i64 (.cv .i64 (.op .shr .u64 (.op .and .u64 (.v 102) (.lit 281470681743360)) (.lit 32))))]),(.one (.i .i64 0))]),[],4⟩]
theorem zma:zk zy 71 ze zmb=true:=by decide +kernel
def zl9:List Sm:=[zg 1028]
theorem zl8:zk zy 71 ze zl9=true:=by decide +kernel
def zl7:List Sm:=[zg 1032]
theorem zl6:zk zy 71 ze zl7=true:=by decide +kernel
def zl5:List Sm:=[zpO 1088,
 zpN 1088]
theorem zl4:zk zy 71 ze zl5=true:=by decide +kernel
def zl3:List Sm:=[zg 1092]
theorem zl2:zk zy 71 ze zl3=true:=by decide +kernel
def zl1:List Sm:=[zg 1096]
theorem zl0:zk zy 71 ze zl1=true:=by decide +kernel
def zlZ:List Sm:=[zg 1152]
theorem zlY:zk zy 71 ze zlZ=true:=by decide +kernel
def zlX:List Sm:=[y3 1156]
theorem zlW:zk zy 71 ze zlX=true:=by decide +kernel
def zlV:List Sm:=[y9 1160,
 ⟨[(.one (.i .i64 1160))],[(1160,100),(1161,101),(1162,102),(1163,103)],[((.cmp .eql (.op .shr .u64 (.op .and .u64 (.v 100) (.lit 32505856)) (.lit 20)) (.lit 9)),true),((.cmp .eql (.op .shr .u64 (.op .and .u64 (.v 100) (.lit 8521215115264)) (.lit 38)) (.lit 0)),true),((.cmp .neq (.op .shr .u64 (.v 100) (.lit 43)) (.lit 0)),false),((.cmp .geq (.v 101) (.lit 4294967296)),false),((.cmp .eql (.cv .i64 (.op .shr .u64 (.op .and .u64 (.v 100) (.lit 15)) (.lit 0))) (.lit 2)),false),((.cmp .eql (.cv .i64 (.op .shr .u64 (.op .and .u64 (.v 100) (.lit 15)) (.lit 0))) (.lit 4)),false),((.cmp .eql (.cv .i64 (.op .shr .u64 (.op .and .u64 (.v 100) (.lit 15)) (.lit 0))) (.lit 5)),false),((.cmp .eql (.cv .i64 (.op .shr .u64 (.op .and .u64 (.v 100) (.lit 15)) (.lit 0))) (.lit 6)),false),((.cmp .eql (.cv .i64 (.op .shr .u64 (.op .and .u64 (.v 100) (.lit 15)) (.lit 0))) (.lit 8)),false),((.cmp .eql (.cv .i64 (.op .shr .u64 (.op .and .u64 (.v 100) (.lit 15)) (.lit 0))) (.lit 1)),true),((.cmp .eql (.cv .i64 (.op .shr .u64 (.op .and .u64 (.v 100) (.lit 234881024)) (.lit 25))) (.lit 0)),true),((.cmp .eql (.cv .i64 (.op .shr .u64 (.op .and .u64 (.v 100) (.lit 270582939648)) (.lit 32))) (.lit 0)),true),((.cmp .eql (.cv .i64 (.op .shr .u64 (.op .and .u64 (.v 100) (.lit 4026531840)) (.lit 28))) (.lit 0)),true),((.cmp .lss (.cv .i64 (.op .shr .u64 (.op .and .u64 (.v 100) (.lit 1048560)) (.lit 4))) (.lit 1024)),false),((.cmp .gtr (.cv .i64 (.op .shr .u64 (.op .and .u64 (.v 100) (.lit 1048560)) (.lit 4))) (.lit 65535)),false),((.cmp .neq (.op .rem .i64 (.cv .i64 (.op .shr .u64 (.op .and .u64 (.v 100) (.lit 1048560)) (.lit 4))) (.lit 512)) (.lit 0)),false),((.cmp .geq (.cv .i64 (.v 101)) (.lit 0)),true),((.cmp .leq (.cv .i64 (.v 101)) (.lit 512)),true),((.cmp .neq (.op .shr .u64 (.v 102) (.lit 48)) (.lit 0)),false),((.cmp .neq (.v 103) (.lit 0)),false),((.cmp .geq (.cv .i64 (.op .shr .u64 (.op .and .u64 (.v 102) (.lit 65535)) (.lit 0))) (.lit 0)),true),((.cmp .lss (.cv .i64 (.op .shr .u64 (.op .and .u64 (.v 102) (.lit 65535)) (.lit 0))) (.lit 65536)),true),((.cmp .eql (.op .rem .i64 (.cv .i64 (.op .shr .u64 (.op .and .u64 (.v 102) (.lit 65535)) (.lit 0))) (.lit 4)) (.lit 0)),true),((.cmp .geq (.cv .i64 (.op .shr .u64 (.op .and .u64 (.v 102) (.lit 4294901760)) (.lit 16))) (.lit 0)),true),((.cmp .lss (.cv .i64 (.op .shr .u64 (.op .and .u64 (.v 102) (.lit 4294901760)) (.lit 16))) (.lit 65536)),true),((.cmp .eql (.op .rem .i64 (.cv .i64 (.op .shr .u64 (.op .and .u64 (.v 102) (.lit 4294901760)) (.lit 16))) (.lit 4)) (.lit 0)),true),((.cmp .geq (.cv .i64 (.op .shr .u64 (.op .and .u64 (.v 102) (.lit 281470681743360)) (.lit 32))) (.lit 0)),true),((.cmp .lss (.cv .i64 (.op .shr .u64 (.op .and .u64 (.v 102) (.lit 281470681743360)) (.lit 32))) (.lit 65536)),true)],(.tup [(.agg [(.i .i64 1),(.s .i64 (.cv .i64 (.op .shr .u64 (.op .and .u64 (.v 100) (.lit 1048560)) (.lit 4)))),(.i .i64 9),(.s .i64 (.cv .i64 (.v 101))),(.i .i64 0),(.i .i64 0),(.i .i64 0),(.i .i64 0),(.i .i64 0),(.i .i64 0),(.i .i64 0),(.s .i64 (.cv .i64 (.op .shr .u64 (.op .and .u64 (.v 102) (.lit 65535)) (.lit 0)))),(.s .i64 (.cv .i64 (.op .shr .u64 (.op .and .u64 (.v 102) (.lit 4294901760)) (.lit 16)))),(.s .i64 (.cv .i64 (.op .shr .u64 (.op .and .u64 (.v 102) (.lit 281470681743360)) (.lit 32))))]),(.one (.i .i64 0))]),[],4⟩]
theorem zlU:zk zy 71 ze zlV=true:=by decide +kernel
def zlT:List Sm:=[zg 1164,
 zpN 1164]
theorem zlS:zk zy 71 ze zlT=true:=by decide +kernel
def zlR:List Sm:=[zg 1168]
theorem zlQ:zk zy 71 ze zlR=true:=by decide +kernel
def zlP:List Sm:=[zg 1172]
theorem zlO:zk zy 71 ze zlP=true:=by decide +kernel
def zlN:List Sm:=[zg 1176]
theorem zlM:zk zy 71 ze zlN=true:=by decide +kernel
def zlL:List Sm:=[zg 1180]
theorem zlK:zk zy 71 ze zlL=true:=by decide +kernel
def zlJ:List Sm:=[zg 1184]
theorem zlI:zk zy 71 ze zlJ=true:=by decide +kernel
def zlH:List Sm:=[zg 1188]
theorem zlG:zk zy 71 ze zlH=true:=by decide +kernel
def zlF:List Sm:=[zg 1192]
theorem zlE:zk zy 71 ze zlF=true:=by decide +kernel
def zlD:List Sm:=[zg 1196]
theorem zlC:zk zy 71 ze zlD=true:=by decide +kernel
def zlB:List Sm:=[zg 1200]
theorem zlA:zk zy 71 ze zlB=true:=by decide +kernel
end Go.Ev.X
end
