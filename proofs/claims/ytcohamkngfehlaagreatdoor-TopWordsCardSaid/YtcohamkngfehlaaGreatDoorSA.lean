import Derived.Test.YtcohamkngfehlaaGreatDoorE4
import Derived.Test.YtcohamkngfehlaaGreatDoorE3
set_option linter.unusedSimpArgs false
set_option linter.unusedVariables false
set_option maxRecDepth 100000
noncomputable section
namespace Go.Ev.X
open Go Go.Ev
def k0:Ky:=.k1 .x0
def k1:Ky:=.k1 .x1
def k2:Ky:=.k1 .x2
def k3:Ky:=.k1 .x3
def k4:Ky:=.k1 .x4
def k5:Ky:=.k1 .x5
def k6:Ky:=.k1 .x6
def k7:Ky:=.k1 .x7
def k8:Ky:=.k1 .x8
def k9:Ky:=.k1 .x9
def k10:Ky:=.k1 .xa
def k11:Ky:=.k1 .xb
def k12:Ky:=.k1 .xc
def k13:Ky:=.k1 .xd
def k14:Ky:=.k1 .xe
def k15:Ky:=.k1 .xf
def k16:Ky:=.k2 .x0 .x0
def k17:Ky:=.k2 .x0 .x1
def k18:Ky:=.k2 .x0 .x2
def k19:Ky:=.k2 .x0 .x3
def k20:Ky:=.k2 .x0 .x4
def k21:Ky:=.k2 .x0 .x5
def k22:Ky:=.k2 .x0 .x6
def k23:Ky:=.k2 .x0 .x7
def k24:Ky:=.k2 .x0 .x8
def k25:Ky:=.k2 .x0 .x9
def k26:Ky:=.k2 .x0 .xa
def k27:Ky:=.k2 .x0 .xb
def k28:Ky:=.k2 .x0 .xc
def k29:Ky:=.k2 .x0 .xd
def k30:Ky:=.k2 .x0 .xe
def k31:Ky:=.k2 .x0 .xf
def k32:Ky:=.k2 .x1 .x0
def k33:Ky:=.k2 .x1 .x1
def k34:Ky:=.k2 .x1 .x2
def k35:Ky:=.k2 .x1 .x3
def k36:Ky:=.k2 .x1 .x4
def k37:Ky:=.k2 .x1 .x5
def k38:Ky:=.k2 .x1 .x6
def k39:Ky:=.k2 .x1 .x7
def k40:Ky:=.k2 .x1 .x8
def k41:Ky:=.k2 .x1 .x9
def k42:Ky:=.k2 .x1 .xa
def k43:Ky:=.k2 .x1 .xb
def k44:Ky:=.k2 .x1 .xc
def k45:Ky:=.k2 .x1 .xd
def k46:Ky:=.k2 .x1 .xe
def k47:Ky:=.k2 .x1 .xf
def k48:Ky:=.k2 .x2 .x0
def k49:Ky:=.k2 .x2 .x1
def k50:Ky:=.k2 .x2 .x2
def k51:Ky:=.k2 .x2 .x3
def k52:Ky:=.k2 .x2 .x4
def k53:Ky:=.k2 .x2 .x5
def k54:Ky:=.k2 .x2 .x6
def k55:Ky:=.k2 .x2 .x7
def k56:Ky:=.k2 .x2 .x8
def k57:Ky:=.k2 .x2 .x9
def k58:Ky:=.k2 .x2 .xa
def k59:Ky:=.k2 .x2 .xb
def k60:Ky:=.k2 .x2 .xc
def k61:Ky:=.k2 .x2 .xd
def k62:Ky:=.k2 .x2 .xe
def k63:Ky:=.k2 .x2 .xf
def k64:Ky:=.k2 .x3 .x0
def k65:Ky:=.k2 .x3 .x1
def k66:Ky:=.k2 .x3 .x2
def k67:Ky:=.k2 .x3 .x3
def k68:Ky:=.k2 .x3 .x4
def k69:Ky:=.k2 .x3 .x5
def k70:Ky:=.k2 .x3 .x6
def k71:Ky:=.k2 .x3 .x7
def k72:Ky:=.k2 .x3 .x8
def k73:Ky:=.k2 .x3 .x9
def k74:Ky:=.k2 .x3 .xa
def k75:Ky:=.k2 .x3 .xb
def k76:Ky:=.k2 .x3 .xc
def k77:Ky:=.k2 .x3 .xd
def k78:Ky:=.k2 .x3 .xe
def k79:Ky:=.k2 .x3 .xf
def k80:Ky:=.k2 .x4 .x0
def k81:Ky:=.k2 .x4 .x1
def k82:Ky:=.k2 .x4 .x2
def k83:Ky:=.k2 .x4 .x3
def k84:Ky:=.k2 .x4 .x4
def k85:Ky:=.k2 .x4 .x5
def k86:Ky:=.k2 .x4 .x6
def k87:Ky:=.k2 .x4 .x7
def k88:Ky:=.k2 .x4 .x8
def k89:Ky:=.k2 .x4 .x9
def k90:Ky:=.k2 .x4 .xa
def k91:Ky:=.k2 .x4 .xb
def k92:Ky:=.k2 .x4 .xc
def k93:Ky:=.k2 .x4 .xd
def k94:Ky:=.k2 .x4 .xe
def k95:Ky:=.k2 .x4 .xf
def k96:Ky:=.k2 .x5 .x0
def k97:Ky:=.k2 .x5 .x1
def k98:Ky:=.k2 .x5 .x2
def k99:Ky:=.k2 .x5 .x3
def k100:Ky:=.k2 .x5 .x4
def k101:Ky:=.k2 .x5 .x5
def k102:Ky:=.k2 .x5 .x6
def k103:Ky:=.k2 .x5 .x7
def k104:Ky:=.k2 .x5 .x8
def zgP:Ky:=.k2 .x5 .x9
def k106:Ky:=.k2 .x5 .xa
def k107:Ky:=.k2 .x5 .xb
def k108:Ky:=.k2 .x5 .xc
def k109:Ky:=.k2 .x5 .xd
def k110:Ky:=.k2 .x5 .xe
def k111:Ky:=.k2 .x5 .xf
def k112:Ky:=.k2 .x6 .x0
def k113:Ky:=.k2 .x6 .x1
def k114:Ky:=.k2 .x6 .x2
def k115:Ky:=.k2 .x6 .x3
def k116:Ky:=.k2 .x6 .x4
def k117:Ky:=.k2 .x6 .x5
def k118:Ky:=.k2 .x6 .x6
def k119:Ky:=.k2 .x6 .x7
def k120:Ky:=.k2 .x6 .x8
def k121:Ky:=.k2 .x6 .x9
def k122:Ky:=.k2 .x6 .xa
def k123:Ky:=.k2 .x6 .xb
def k124:Ky:=.k2 .x6 .xc
def k125:Ky:=.k2 .x6 .xd
def k126:Ky:=.k2 .x6 .xe
def k127:Ky:=.k2 .x6 .xf
def k128:Ky:=.k2 .x7 .x0
def k129:Ky:=.k2 .x7 .x1
def k130:Ky:=.k2 .x7 .x2
def k131:Ky:=.k2 .x7 .x3
def k132:Ky:=.k2 .x7 .x4
def k133:Ky:=.k2 .x7 .x5
def k134:Ky:=.k2 .x7 .x6
def k135:Ky:=.k2 .x7 .x7
def k136:Ky:=.k2 .x7 .x8
def k137:Ky:=.k2 .x7 .x9
def k138:Ky:=.k2 .x7 .xa
def k139:Ky:=.k2 .x7 .xb
def k140:Ky:=.k2 .x7 .xc
def k141:Ky:=.k2 .x7 .xd
def k142:Ky:=.k2 .x7 .xe
def k143:Ky:=.k2 .x7 .xf
def k144:Ky:=.k2 .x8 .x0
def k145:Ky:=.k2 .x8 .x1
def k146:Ky:=.k2 .x8 .x2
def k147:Ky:=.k2 .x8 .x3
def k148:Ky:=.k2 .x8 .x4
def k149:Ky:=.k2 .x8 .x5
def k150:Ky:=.k2 .x8 .x6
def k151:Ky:=.k2 .x8 .x7
def dr4:Nat->Option Dr:=fun r=>if Nat.beq r 13 then some (.hold2 [] [(true,0),(true,2),(true,3),(true,4),(true,5),(false,1),(false,6)] [7,8]) else none
def dr13:Nat->Option Dr:=fun r=>if Nat.beq r 8 then some (.hold2 [] [(true,1),(true,2),(true,5),(true,6),(true,7),(false,0),(true,3),(false,4)] [8,9]) else none
def x13:IFx:=⟨(.seq (.pure (.ops [.op (some k3) none (.box 43 (.s k1)),.op (some k4) none (.mov (.c (.i .i64 0)))])) (.seq (.pure (.ops [.op (some k6) none (.mov (.s k0)),.op (some k7) none (.nilc (.s k6)),.op (some k8) none (.fad 3 (.s k7)),.op none none (.st 1 (.s k8) (.c (.i .i64 0)))])) (.seq (.pure (.seq (.ops [.op (some k9) none (.ldn 4 (.s k3)),.call (some k10) none (.c (.fn 30 [] [])) [(.s k9)],.op (some k11) none (.not (.s k10))]) (.cond k11 (.seq (.ops [.op (some k4) none (.mov (.c (.i .i64 230)))]) .ret) .skip))) (.seq (.pure (.ops [.op (some k12) none (.mov (.s k0)),.op (some k13) none (.nilc (.s k12)),.op (some k14) none (.fad 0 (.s k13)),.op (some k15) none (.fad 0 (.s k14)),.op (some k16) none (.ld (.s k15)),.call (some k17) none (.c (.fn 14 [] [])) [(.s k16)],.op (some k5) none (.mov (.s k17))])) (.seq (.pure (.seq (.ops [.op (some k18) none (.mov (.s k5)),.op (some k19) none (.bin .eql .num (.s k18) (.c (.i .i64 0))),.op (some k20) none (.mov (.s k19)),.op (some k21) (some (k20,true)) (.fad 0 (.s k3)),.op (some k22) (some (k20,true)) (.ld (.s k21)),.call (some k23) (some (k20,true)) (.c (.fn 31 [] [])) [(.s k22)],.op (some k24) none (.pick (.s k20) (.s k23) (.c (.b false)))]) (.cond k24 (.seq (.ops [.op (some k4) none (.mov (.c (.i .i64 231)))]) .ret) .skip))) (.seq (.dfr [.op (some k25) none (.mov (.s k0))] (.c (.fn 32 [] [])) [(.s k25)]) (.pure (.seq (.seq (.hops [] [(true,.op (some k27) none (.fad 0 (.s k3))),(true,.op (some k28) none (.ld (.s k27))),(true,.op (some k31) none (.mov (.s k0))),(true,.op (some k32) none (.mov (.s k5))),(true,.op (some k33) none (.ldn 4 (.s k3))),(false,.call (some k26) none (.c (.fn 33 [] [])) []),(true,.op (some k29) none (.ixs 1 (.s k26) (.s k28))),(false,.op (some k30) none (.ld (.s k29)))]) (.ops [.call (some k34) none (.s k30) [(.s k31),(.s k32),(.s k33)],.op (some k4) none (.mov (.s k34))])) .ret)))))))),[.tmp k4]⟩
def zT:List V:=[(.i .i64 0),(.i .i64 0),(.i .i64 0),(.b false),(.i .i64 0),(.i .i64 0),(.i .i64 0),(.i .i64 0),(.b false),(.b false),(.i .i64 0),(.i .i64 0),(.i .i64 0),(.i .i64 0),(.i .u64 0),(.i .u64 0),(.i .u64 0),(.i .u64 0),(.i .u64 0),(.i .u64 0),(.i .u64 0),(.i .u64 0),(.i .u64 0),(.i .u64 0),(.i .u64 0),(.i .u64 0),(.i .u64 0),(.i .u64 0),(.i .u64 0),(.i .u64 0)]
def zS (n:Nat) (a b:Ky):OI:=.op none none (.st n (.s a) (.s b))
def drN:Nat->Option Dr:=fun _=>none
def zM (a b:Ky):OI:=.op (some a) none (.mov (.s b))
def zV (a:Ky) (v:V):OI:=.op (some a) none (.mov (.c v))
def zO (a:Ky) (o:IOp):OI:=.op (some a) none o
def zL (a b:Ky):OI:=.op (some a) none (.ld (.s b))
def zF (a:Ky) (n:Nat) (b:Ky):OI:=.op (some a) none (.fad n (.s b))
def zB (a:Ky) (o:BinOp) (x y:Od):OI:=.op (some a) none (.bin o .num x y)
def zE (a b:Ky) (n:Nat):OI:=.op (some a) none (.ext (.s b) n)
def zC (a:Ky) (n:Nat) (l:List Od):OI:=.call (some a) none (.c (.fn n [] [])) l
def zG (a c:Ky) (t:Bool) (o:IOp):OI:=.op (some a) (some (c,t)) o
def zI (n:Int):Od:=.c (.i .i64 n)
def zU (n:Int):Od:=.c (.i .u64 n)
def i14:IFn:=⟨(.seq (.ops [zV k2 (.i .i64 0)]) (.seq (.ops [zC k3 34 [],zM k4 k0,zC k5 35 [.s k3,.s k4],zM k2 k5]) .ret)),[.tmp k2]⟩
def dr15:Nat->Option Dr:=fun r=>if Nat.beq r 15 then some (.held [] [(true,0),(true,1),(true,2),(true,3),(true,4),(true,5),(true,6),(true,7),(true,8),(true,9),(true,10),(true,11),(true,12),(true,13),(true,14),(true,15),(true,16),(true,17),(true,18),(true,19),(true,20),(true,21),(true,22),(true,23),(true,24),(true,25),(true,26),(true,27),(true,28),(true,29),(true,30),(true,31),(true,32),(true,33),(true,34),(true,35),(true,36),(true,37),(true,38),(true,39),(true,40),(true,41),(true,42),(true,43),(true,44),(true,45),(false,46),(false,47)]) else none
def i15:IFn:=⟨(.seq (.ops [zO k4 (.new 47 zT),zV k5 (.i .i64 0)]) (.seq (.seq (.ops [zM k18 k0,zM k19 k1,zC k20 36 [.s k18,.s k19,zI 64],zO k21 (.not (.s k20))]) (.cond k21 (.seq (.ops [zO k22 (.agg zT []),zS 30 k4 k22,zV k5 (.i .i64 20)]) .ret) .skip)) (.seq (.ops [zO k6 (.new 61 [.i .u64 0,.i .u64 0,.i .u64 0,.i .u64 0])]) (.seq (.seq (.ops [zV k23 (.i .i64 0)]) (.block 0 (.loop (.seq (.ops [zB k24 .lss (.s k23) (zI 4)]) (.seq (.cond k24 .skip (.exit 0)) (.seq (.block 1 (.seq (.ops [zM k25 k23,zM k7 k25]) (.ops [zM k27 k7,zM k28 k0,zM k29 k1,zB k30 .add (.s k29) (zI 16),zM k31 k7,zB k32 .add (.s k30) (.s k31),zC k33 37 [.s k28,.s k32],zM k26 k33,zE k34 k26 0,zE k35 k26 1,zO k36 (.ixa 4 1 (.s k6) (.s k27)),zS 1 k36 k34]))) (.ops [zB k37 .add (.s k23) (zI 1),zM k23 k37]))))))) (.seq (.ops [zO k39 (.ixa 4 1 (.s k6) (zI 0)),zL k40 k39,zO k41 (.bsl 3 7 [.i .i64 0,.i .i64 0,.i .i64 0,.i .i64 0,.i .i64 0,.i .i64 0,.i .i64 0] [(0,1,zI 3),(1,1,zI 8),(2,1,zI 3),(3,1,zI 1),(4,1,zI 1),(5,1,zI 1),(6,1,zI 2)]),zC k42 38 [.s k40,.s k41],zM k38 k42,zE k43 k38 0,zE k44 k38 1,zM k8 k43,zM k9 k44]) (.seq (.ops [zO k46 (.ixa 4 1 (.s k6) (zI 1)),zL k47 k46,zO k48 (.bsl 3 4 [.i .i64 0,.i .i64 0,.i .i64 0,.i .i64 0] [(0,1,zI 16),(1,1,zI 16),(2,1,zI 16),(3,1,zI 16)]),zC k49 38 [.s k47,.s k48],zM k45 k49,zE k50 k45 0,zE k51 k45 1,zM k10 k50,zM k11 k51]) (.seq (.ops [zO k53 (.ixa 4 1 (.s k6) (zI 2)),zL k54 k53,zO k55 (.bsl 3 1 [.i .i64 0] [(0,1,zI 28)]),zC k56 38 [.s k54,.s k55],zM k52 k56,zE k57 k52 0,zE k58 k52 1,zM k12 k57,zM k13 k58]) (.seq (.ops [zO k60 (.ixa 4 1 (.s k6) (zI 3)),zL k61 k60,zO k62 (.bsl 3 2 [.i .i64 0,.i .i64 0] [(0,1,zI 32),(1,1,zI 32)]),zC k63 38 [.s k61,.s k62],zM k59 k63,zE k64 k59 0,zE k65 k59 1,zM k14 k64,zM k15 k65]) (.seq (.seq (.ops [zM k66 k9,zO k67 (.not (.s k66)),zM k68 k67,zG k69 k68 false (.mov (.s k11)),zG k70 k68 false (.not (.s k69)),zO k71 (.pick (.s k68) (.c (.b true)) (.s k70)),zM k72 k71,zG k73 k72 false (.mov (.s k13)),zG k74 k72 false (.not (.s k73)),zO k75 (.pick (.s k72) (.c (.b true)) (.s k74)),zM k76 k75,zG k77 k76 false (.mov (.s k8)),zG k78 k76 false (.ixs 1 (.s k77) (zI 0)),zG k79 k76 false (.ld (.s k78)),zG k80 k76 false (.bin .gtr .num (.s k79) (zI 5)),zO k81 (.pick (.s k76) (.c (.b true)) (.s k80)),zM k82 k81,zG k83 k82 false (.mov (.s k8)),zG k84 k82 false (.ixs 1 (.s k83) (zI 2)),zG k85 k82 false (.ld (.s k84)),zG k86 k82 false (.bin .gtr .num (.s k85) (zI 5)),zO k87 (.pick (.s k82) (.c (.b true)) (.s k86))]) (.cond k87 (.seq (.ops [zO k88 (.agg zT []),zS 30 k4 k88,zV k5 (.i .i64 90)]) .ret) .skip)) (.seq (.hops [] [(true,zM k89 k8),(true,zO k90 (.ixs 1 (.s k89) (zI 0))),(true,zL k91 k90),(true,zM k92 k8),(true,zO k93 (.ixs 1 (.s k92) (zI 1))),(true,zL k94 k93),(true,zM k95 k8),(true,zO k96 (.ixs 1 (.s k95) (zI 2))),(true,zL k97 k96),(true,zM k98 k8),(true,zO k99 (.ixs 1 (.s k98) (zI 3))),(true,zL k100 k99),(true,zB k101 .eql (.s k100) (zI 1)),(true,zM k102 k8),(true,zO k103 (.ixs 1 (.s k102) (zI 4))),(true,zL k104 k103),(true,zB zgP .eql (.s k104) (zI 1)),(true,zM k106 k8),(true,zO k107 (.ixs 1 (.s k106) (zI 5))),(true,zL k108 k107),(true,zB k109 .eql (.s k108) (zI 1)),(true,zM k110 k8),(true,zO k111 (.ixs 1 (.s k110) (zI 6))),(true,zL k112 k111),(true,zM k113 k10),(true,zO k114 (.ixs 1 (.s k113) (zI 0))),(true,zL k115 k114),(true,zM k116 k10),(true,zO k117 (.ixs 1 (.s k116) (zI 1))),(true,zL k118 k117),(true,zM k119 k10),(true,zO k120 (.ixs 1 (.s k119) (zI 2))),(true,zL k121 k120),(true,zM k122 k10),(true,zO k123 (.ixs 1 (.s k122) (zI 3))),(true,zL k124 k123),(true,zM k125 k12),(true,zO k126 (.ixs 1 (.s k125) (zI 0))),(true,zL k127 k126),(true,zM k128 k14),(true,zO k129 (.ixs 1 (.s k128) (zI 0))),(true,zL k130 k129),(true,zM k131 k14),(true,zO k132 (.ixs 1 (.s k131) (zI 1))),(true,zL k133 k132),(true,zO k134 (.agg zT [(0,1,.s k91),(1,1,.s k94),(2,1,.s k97),(3,1,.s k101),(8,1,.s zgP),(9,1,.s k109),(12,1,.s k112),(4,1,.s k115),(5,1,.s k118),(6,1,.s k121),(10,1,.s k124),(7,1,.s k127),(11,1,.s k130),(13,1,.s k133)])),(false,zO k16 (.new 47 zT)),(false,zS 30 k16 k134)]) (.seq (.seq (.ops [zV k135 (.i .i64 0)]) (.block 2 (.loop (.seq (.ops [zB k136 .lss (.s k135) (zI 16)]) (.seq (.cond k136 .skip (.exit 2)) (.seq (.block 3 (.seq (.ops [zM k137 k135,zM k17 k137]) (.ops [zM k139 k17,zM k140 k0,zM k141 k1,zB k142 .add (.s k141) (zI 32),zM k143 k17,zB k144 .add (.s k142) (.s k143),zC k145 37 [.s k140,.s k144],zM k138 k145,zE k146 k138 0,zE k147 k138 1,zF k148 14 k16,zO k149 (.ixa 16 1 (.s k148) (.s k139)),zS 1 k149 k146]))) (.ops [zB k150 .add (.s k135) (zI 1),zM k135 k150]))))))) (.seq (.ops [zO k151 (.ldn 30 (.s k16)),zS 30 k4 k151,zV k5 (.i .i64 0)]) .ret)))))))))))),[.cn 30 k4,.tmp k5]⟩
def i19:IFn:=⟨(.seq (.ops [zV k6 (.i .u64 0),zV k7 (.i .i64 0)]) (.seq (.ops [zM k11 k0,zM k12 k1,zM k13 k2,zC k14 42 [.s k11,.s k12,.s k13],zM k10 k14,zE k15 k10 0,zE k16 k10 1,zM k8 k15,zM k9 k16]) (.seq (.seq (.ops [zM k17 k9,zB k18 .neq (.s k17) (zI 0)]) (.cond k18 (.seq (.ops [zM k19 k9,zV k6 (.i .u64 0),zM k7 k19]) .ret) .skip)) (.seq (.ops [zM k20 k0,zM k21 k8,zC k22 37 [.s k20,.s k21],zE k23 k22 0,zE k24 k22 1,zM k6 k23,zM k7 k24]) .ret)))),[.tmp k6,.tmp k7]⟩
def dr24:Nat->Option Dr:=fun r=>if Nat.beq r 11 then some (.tail 7 [7]) else none
def rs24:List IR:=[.tmp k2,.tmp k3]
def yc24:YC:=(.seq (.ops [.o (.op (some k1) none (.box 32 (.s k0))),.o (.op (some k2) none (.mov (.c .nil))),.o (.op (some k3) none (.mov (.c (.i .i64 0))))]) (.seq (.ops [.o (.op (some k12) none (.ldn 5 (.s k1))),.sub (some k13) 45 [(.s k12)] (.call (some k13) none (.c (.fn 45 [] [])) [(.s k12)]),.o (.op (some k4) none (.mov (.s k13)))]) (.seq (.seq (.ops [.o (.op (some k14) none (.mov (.s k4))),.o (.op (some k15) none (.bin .eql .ptr (.s k14) (.c .nil)))]) (.cond k15 (.seq (.ops [.o (.op (some k2) none (.mov (.c .nil))),.o (.op (some k3) none (.mov (.c (.i .i64 220))))]) .ret) .skip)) (.seq (.ops [.o (.op (some k17) none (.fad 0 (.s k1))),.o (.op (some k18) none (.ld (.s k17))),.sub (some k19) 46 [(.s k18)] (.call (some k19) none (.c (.fn 46 [] [])) [(.s k18)]),.o (.op (some k16) none (.mov (.s k19))),.o (.op (some k20) none (.ext (.s k16) 0)),.o (.op (some k21) none (.ext (.s k16) 1)),.o (.op (some k5) none (.new 36 [.nil])),.o (.op none none (.st 1 (.s k5) (.s k20))),.o (.op (some k6) none (.mov (.s k21)))]) (.seq (.seq (.ops [.o (.op (some k22) none (.mov (.s k6))),.o (.op (some k23) none (.bin .neq .num (.s k22) (.c (.i .i64 0))))]) (.cond k23 (.seq (.ops [.o (.op (some k24) none (.mov (.s k6))),.o (.op (some k2) none (.mov (.c .nil))),.o (.op (some k3) none (.mov (.s k24)))]) .ret) .skip)) (.seq (.seq (.ops [.o (.op (some k25) none (.mov (.s k4))),.sub (some k26) 47 [(.s k25)] (.call (some k26) none (.c (.fn 47 [] [])) [(.s k25)])]) (.block 0 (.rng (.s k26) [k27] (.ops [.o (.op (some k7) none (.new 110 [(.i .i64 0),(.i .i64 0),(.i .i64 0),(.i .i64 0),(.i .i64 0),(.i .i64 0),(.i .i64 0),(.i .i64 0),(.i .i64 0),(.i .i64 0),(.i .i64 0),(.i .i64 0),(.i .i64 0)])),.o (.op none none (.st 13 (.s k7) (.s k27)))]) (.block 1 (.seq (.ops [.o (.op (some k28) none (.ld (.s k5))),.o (.op (some k29) none (.fad 0 (.s k7))),.o (.op (some k30) none (.ld (.s k29))),.o (.op (some k31) none (.fad 2 (.s k7))),.o (.op (some k32) none (.ldn 11 (.s k31))),.o (.op (some k33) none (.agg [(.i .i64 0),(.i .i64 0),(.i .i64 0),(.i .i64 0),(.i .i64 0),(.i .i64 0),(.i .i64 0),(.i .i64 0),(.i .i64 0),(.i .i64 0),(.i .i64 0),(.i .i64 0),(.i .i64 0),(.i .i64 0)] [(0,11,(.s k32))])),.sub (some k34) 48 [(.s k28),(.s k30),(.s k33)] (.call (some k34) none (.c (.fn 48 [] [])) [(.s k28),(.s k30),(.s k33)])]) (.ops [.o (.op (some k35) none (.ld (.s k5))),.o (.op (some k36) none (.fad 1 (.s k7))),.o (.op (some k37) none (.ld (.s k36))),.o (.op (some k38) none (.fad 0 (.s k7))),.o (.op (some k39) none (.ld (.s k38))),.sub (some k40) 49 [(.s k35),(.s k37),(.s k39)] (.call (some k40) none (.c (.fn 49 [] [])) [(.s k35),(.s k37),(.s k39)])])))))) (.seq (.qops [.op (some k41) none (.ld (.s k5)),.op (some k42) none (.mov (.s k4)),.op (some k43) none (.nilc (.s k42)),.op (some k44) none (.fad 5 (.s k43)),.op (some k45) none (.ld (.s k44)),.op (some k46) none (.agg [(.i .i64 0),(.i .i64 0)] [(0,1,(.c (.i .i64 7))),(1,1,(.c (.i .i64 0)))]),.op (some k47) none (.mop (.lkp (.agg [.int .i64,.int .i64]) (.i .i64 0) false (.s k45) (.s k46)))] [.sub (some k48) 50 [(.s k41),(.c (.i .i64 1)),(.s k47)] (.call (some k48) none (.c (.fn 50 [] [])) [(.s k41),(.c (.i .i64 1)),(.s k47)])]) (.seq (.seq (.ops [.o (.op (some k49) none (.fad 1 (.s k1))),.o (.op (some k50) none (.ld (.s k49))),.o (.op (some k51) none (.lens (.s k50))),.o (.op (some k52) none (.mov (.c (.i .i64 0))))]) (.block 2 (.loop (.seq (.ops [.o (.op (some k53) none (.bin .lss .num (.s k52) (.s k51)))]) (.seq (.cond k53 .skip (.exit 2)) (.seq (.block 3 (.seq (.ops [.o (.op (some k54) none (.mov (.s k52))),.o (.op (some k55) none (.ixs 5 (.s k50) (.s k52))),.o (.op (some k56) none (.ldn 5 (.s k55))),.o (.op (some k9) none (.new 28 [(.i .i64 0),(.i .i64 0),(.i .i64 0),(.i .i64 0),.snil])),.o (.op (some k8) none (.mov (.s k54))),.o (.op none none (.st 5 (.s k9) (.s k56)))]) (.seq (.ops [.o (.op (some k57) none (.mov (.s k4))),.o (.op (some k58) none (.ld (.s k5))),.o (.op (some k59) none (.mov (.s k8))),.sub (some k60) 51 [(.s k57),(.s k58),(.s k59)] (.call (some k60) none (.c (.fn 51 [] [])) [(.s k57),(.s k58),(.s k59)])]) (.seq (.ops [.o (.op (some k61) none (.mov (.s k4))),.o (.op (some k62) none (.nilc (.s k61))),.o (.op (some k63) none (.fad 5 (.s k62))),.o (.op (some k64) none (.ld (.s k63))),.o (.op (some k65) none (.mov (.s k8))),.o (.op (some k66) none (.agg [(.i .i64 0),(.i .i64 0)] [(0,1,(.c (.i .i64 3))),(1,1,(.s k65))])),.o (.op (some k67) none (.mop (.lkp (.agg [.int .i64,.int .i64]) (.i .i64 0) false (.s k64) (.s k66)))),.o (.op (some k10) none (.mov (.s k67)))]) (.seq (.ops [.o (.op (some k68) none (.ld (.s k5))),.o (.op (some k69) none (.mov (.s k10))),.o (.op (some k70) none (.fad 1 (.s k9))),.o (.op (some k71) none (.ld (.s k70))),.o (.op (some k72) none (.fad 2 (.s k9))),.o (.op (some k73) none (.ld (.s k72))),.o (.op (some k74) none (.agg [(.i .i64 0),(.i .i64 0),(.i .i64 0),(.b false),(.i .i64 0),(.i .i64 0),(.i .i64 0),(.i .i64 0),(.b false),(.b false),(.i .i64 0),(.i .i64 0),(.i .i64 0),(.i .i64 0),(.i .u64 0),(.i .u64 0),(.i .u64 0),(.i .u64 0),(.i .u64 0),(.i .u64 0),(.i .u64 0),(.i .u64 0),(.i .u64 0),(.i .u64 0),(.i .u64 0),(.i .u64 0),(.i .u64 0),(.i .u64 0),(.i .u64 0),(.i .u64 0)] [(0,1,(.c (.i .i64 1))),(1,1,(.s k71)),(2,1,(.c (.i .i64 5))),(11,1,(.s k73))])),.sub (some k75) 52 [(.s k68),(.s k69),(.s k74)] (.call (some k75) none (.c (.fn 52 [] [])) [(.s k68),(.s k69),(.s k74)])]) (.ops [.o (.op (some k76) none (.ld (.s k5))),.o (.op (some k77) none (.mov (.s k10))),.sub (some k78) 53 [(.s k76),(.s k77)] (.call (some k78) none (.c (.fn 53 [] [])) [(.s k76),(.s k77)])])))))) (.ops [.o (.op (some k79) none (.bin .add .num (.s k52) (.c (.i .i64 1)))),.o (.op (some k52) none (.mov (.s k79)))]))))))) (.seq (.ops [.o (.op (some k80) none (.ld (.s k5))),.sub (some k81) 54 [(.s k80)] (.call (some k81) none (.c (.fn 54 [] [])) [(.s k80)]),.o (.op (some k11) none (.mov (.s k81)))]) (.seq (.ops [.o (.op (some k82) none (.ld (.s k5))),.o (.op (some k83) none (.mov (.s k11))),.sub (some k84) 55 [(.s k82),(.s k83)] (.call (some k84) none (.c (.fn 55 [] [])) [(.s k82),(.s k83)])]) (.seq (.ops [.o (.op (some k85) none (.ld (.s k5))),.o (.op (some k86) none (.mov (.s k11))),.sub (some k87) 56 [(.s k85),(.s k86)] (.call (some k87) none (.c (.fn 56 [] [])) [(.s k85),(.s k86)])]) (.seq (.ops [.o (.op (some k88) none (.ld (.s k5))),.o (.op (some k2) none (.mov (.s k88))),.o (.op (some k3) none (.mov (.c (.i .i64 0))))]) .ret))))))))))))
def i26:IFn:=⟨(.seq (.ops [zV k0 .nil]) (.seq (.ops [zO k1 (.agg [.i .u16 0,.i .u16 0,.i .u32 0] [(1,1,(.c (.i .u16 65535)))]),zO k2 (.box 126 (.s k1)),zM k0 k2]) .ret)),[.tmp k0]⟩
def i28:IFn:=⟨(.seq (.ops [zV k2 (.i .i64 0)]) (.seq (.ops [zM k3 k0,zO k4 (.nilc (.s k3)),zF k5 0 k4,zL k6 k5,zO k7 (.lens (.s k6)),zM k2 k7]) .ret)),[.tmp k2]⟩
def i32:IFn:=⟨(.seq (.ops [zM k2 k0,zC k3 60 [.s k2]]) (.ops [zM k4 k0,zO k5 (.nilc (.s k4)),zF k6 0 k5,zF k7 0 k6,zL k8 k7,zC k9 61 [.s k8]])),[]⟩
def i34:IFn:=⟨(.seq (.ops [zO k0 (.new 88 [.i .i64 0,.i .i64 0,.i .i64 0])]) (.seq (.ops [zO k1 (.agg [.i .i64 0,.i .i64 0,.i .i64 0] [(0,1,zI 1),(1,1,zI 64),(2,1,zI 1024)]),zS 3 k0 k1]) .ret)),[.cn 3 k0]⟩
def i36:IFn:=⟨(.seq (.ops [zV k6 (.b false)]) (.seq (.ops [zM k7 k1,zB k8 .geq (.s k7) (zI 1024),zM k9 k8,zG k10 k9 true (.mov (.s k1)),zG k11 k9 true (.mov (.s k2)),zG k12 k9 true (.bin .rem .num (.s k10) (.s k11)),zG k13 k9 true (.bin .eql .num (.s k12) (zI 0)),zO k14 (.pick (.s k9) (.s k13) (.c (.b false))),zM k15 k14,zG k16 k15 true (.mov (.s k1)),zG k17 k15 true (.mov (.s k0)),.call (some k18) (some (k15,true)) (.c (.fn 28 [] [])) [.s k17],zG k19 k15 true (.mov (.s k2)),zG k20 k15 true (.bin .sub .num (.s k18) (.s k19)),zG k21 k15 true (.bin .leq .num (.s k16) (.s k20)),zO k22 (.pick (.s k15) (.s k21) (.c (.b false))),zM k6 k22]) .ret)),[.tmp k6]⟩
def i37:IFn:=⟨(.seq (.ops [zV k4 (.i .u64 0),zV k5 (.i .i64 0)]) (.seq (.ops [zM k9 k0,zM k10 k1,zC k11 57 [.s k9,.s k10,zI 1],zM k8 k11,zE k12 k8 0,zE k13 k8 1,zM k6 k12,zM k7 k13]) (.seq (.seq (.ops [zM k14 k7,zO k15 (.not (.s k14))]) (.cond k15 (.seq (.ops [zV k4 (.i .u64 0),zV k5 (.i .i64 20)]) .ret) .skip)) (.seq (.ops [zM k16 k0,zO k17 (.nilc (.s k16)),zF k18 1 k17,zL k19 k18,zB k20 .add (.s k19) (zI 1),zO k21 (.nilc (.s k16)),zF k22 1 k21,zS 1 k22 k20]) (.seq (.ops [zM k23 k6,zO k24 (.ixs 1 (.s k23) (zI 0)),zL k25 k24,zM k4 k25,zV k5 (.i .i64 0)]) .ret))))),[.tmp k4,.tmp k5]⟩
def i38:IFn:=⟨(.seq (.ops [zV k4 .snil,zV k5 (.b false)]) (.seq (.ops [zM k12 k0,zM k13 k1,zC k14 69 [.s k12,.s k13],zM k11 k14,zE k15 k11 0,zE k16 k11 1,zM k6 k15,zM k7 k16]) (.seq (.ops [zM k17 k1,zO k18 (.lens (.s k17)),zO k19 (.msl 3 (.i .i64 0) 1 8 (.s k18) (.s k18)),zM k8 k19]) (.seq (.seq (.ops [zM k20 k6,zO k21 (.lens (.s k20)),zV k22 (.i .i64 0)]) (.block 0 (.loop (.seq (.ops [zB k23 .lss (.s k22) (.s k21)]) (.seq (.cond k23 .skip (.exit 0)) (.seq (.block 1 (.seq (.ops [zM k24 k22,zO k25 (.ixs 1 (.s k20) (.s k22)),zL k26 k25,zM k9 k24,zM k10 k26]) (.ops [zM k27 k8,zM k28 k9,zM k29 k10,zO k30 (.cv .i64 (.s k29)),zO k31 (.ixs 1 (.s k27) (.s k28)),zS 1 k31 k30]))) (.ops [zB k32 .add (.s k22) (zI 1),zM k22 k32]))))))) (.seq (.ops [zM k33 k8,zM k34 k7,zB k35 .eql (.s k34) (zI 0),zM k4 k33,zM k5 k35]) .ret))))),[.tmp k4,.tmp k5]⟩
def i41:IFn:=⟨(.seq (.ops [zV k4 (.i .i64 0)]) (.seq (.ops [zM k5 k0,zM k6 k1,zO k7 (.mmx false (.s k5) (.s k6)),zO k8 (.mmx true (zI 0) (.s k7)),zM k4 k8]) .ret)),[.tmp k4]⟩
def i42:IFn:=⟨(.seq (.ops [zV k6 (.i .i64 0),zV k7 (.i .i64 0)]) (.seq (.block 0 (.seq (.ops [zM k9 k0,zM k10 k1,zC k11 36 [.s k9,.s k10,zI 64],zO k12 (.not (.s k11)),zM k8 k12]) (.cond k8 (.seq (.ops [zV k6 (.i .i64 0),zV k7 (.i .i64 20)]) .ret) (.seq (.ops [zM k14 k2,zC k15 70 [.s k14,zI 15],zO k16 (.not (.s k15)),zM k13 k16]) (.cond k13 (.seq (.ops [zV k6 (.i .i64 0),zV k7 (.i .i64 1)]) .ret) .skip))))) (.seq (.ops [zM k17 k1,zB k18 .add (.s k17) (zI 32),zM k19 k2,zB k20 .add (.s k18) (.s k19),zM k6 k20,zV k7 (.i .i64 0)]) .ret))),[.tmp k6,.tmp k7]⟩
def dr43:Nat->Option Dr:=fun r=>if Nat.beq r 23 then some (.tail 11 [11]) else if Nat.beq r 21 then some (.mapK [10,3] [0,1,2,3,4,5,6] [(0,[3]),(1,[110]),(2,[111]),(3,[112]),(4,[10]),(5,[114]),(6,[115])] [] 7 [] 8) else if Nat.beq r 20 then some (.tail 7 [7,8]) else if Nat.beq r 18 then some (.heldK2 [12,3] [(true,0),(true,1),(true,2),(true,3),(true,4),(true,5),(false,6),(false,7),(true,8),(true,9)] [10]) else none
def dr45:Nat->Option Dr:=fun r=>if Nat.beq r 19 then some (.tail 7 [7]) else none
def dr47:Nat->Option Dr:=fun r=>if Nat.beq r 10 then some (.tail 12 [12]) else if Nat.beq r 6 then some (.tail 10 [10]) else none
def dr48:Nat->Option Dr:=fun r=>if Nat.beq r 7 then some (.heldK [5] [(true,0),(true,1),(true,2),(true,4),(true,5),(true,6),(true,8),(true,9),(true,10),(false,3),(false,7),(false,11),(false,12),(false,13),(true,14),(true,15),(true,16),(true,17),(true,18)]) else none
def i48:IFn:=⟨(.seq (.ops [zO k5 (.box 113 (.s k2)),zV k6 (.i .i64 0)]) (.seq (.seq (.ops [zM k15 k0,zM k16 k1,zC k17 96 [.s k15,.s k16],zO k18 (.not (.s k17))]) (.cond k18 (.seq (.ops [zV k6 (.i .i64 20)]) .ret) .skip)) (.seq (.seq (.ops [zO k19 (.ldn 14 (.s k5)),zC k20 97 [.s k19],zO k21 (.not (.s k20))]) (.cond k21 (.seq (.ops [zV k6 (.i .i64 110)]) .ret) .skip)) (.seq (.ops [zF k23 0 k5,zO k24 (.ldn 11 (.s k23)),zC k25 98 [.s k24],zM k22 k25,zE k26 k22 0,zE k27 k22 1,zE k28 k22 2,zM k7 k26,zM k8 k27,zM k9 k28]) (.seq (.ops [zV k10 (.fn 99 [] [])]) (.seq (.kops [k5] [(true,zM k30 k10),(true,zF k31 11 k5),(true,zL k32 k31),(true,zM k34 k10),(true,zF k35 12 k5),(true,zL k36 k35),(true,zM k38 k10),(true,zF k39 13 k5),(true,zL k40 k39),(false,.call (some k33) none (.s k30) [.s k32]),(false,.call (some k37) none (.s k34) [.s k36]),(false,.call (some k41) none (.s k38) [.s k40]),(false,zO k42 (.bsl 166 3 [.i .i64 0,.i .u64 0,.i .i64 0,.i .u64 0,.i .i64 0,.i .u64 0] [(0,2,.s k33),(2,2,.s k37),(4,2,.s k41)])),(false,zC k43 100 [.s k42]),(true,zM k29 k43),(true,zE k44 k29 0),(true,zE k45 k29 1),(true,zM k11 k44),(true,zM k12 k45)]) (.seq (.seq (.ops [zM k46 k7,zM k47 k8,zM k48 k11,zO k49 (.agg [.i .u64 0,.i .u64 0,.i .u64 0,.i .u64 0] [(0,1,.s k46),(1,1,.s k47),(2,1,.s k48),(3,1,zU 0)]),zV k50 (.i .i64 0)]) (.block 0 (.loop (.seq (.ops [zB k51 .lss (.s k50) (zI 4)]) (.seq (.cond k51 .skip (.exit 0)) (.seq (.block 1 (.seq (.ops [zM k52 k50,zO k53 (.ix 4 1 false (.s k49) (.s k50)),zM k13 k52,zM k14 k53]) (.ops [zM k54 k0,zM k55 k1,zM k56 k13,zB k57 .add (.s k55) (.s k56),zM k58 k14,zC k59 101 [.s k54,.s k57,.s k58]]))) (.ops [zB k60 .add (.s k50) (zI 1),zM k50 k60]))))))) (.seq (.ops [zV k6 (.i .i64 0)]) .ret)))))))),[.tmp k6]⟩
def dr49:Nat->Option Dr:=fun r=>if Nat.beq r 13 then some (.held [7] [(true,0),(true,1),(true,2),(true,3),(true,4),(true,5),(true,6),(false,7),(true,8),(false,9),(true,10),(false,11)]) else none
def dr51:Nat->Option Dr:=fun r=>if Nat.beq r 12 then some (.tail 16 [16]) else if Nat.beq r 4 then some (.tail 10 [10]) else if Nat.beq r 1 then some (.held [] [(true,0),(true,1),(true,2),(true,3),(true,4),(true,5),(true,6),(true,7),(false,8),(false,9)]) else none
def i52:IFn:=⟨(.seq (.ops [zO k5 (.box 47 (.s k2)),zV k6 (.i .i64 0)]) (.seq (.seq (.ops [zM k13 k0,zM k14 k1,zC k15 36 [.s k13,.s k14,zI 64],zO k16 (.not (.s k15))]) (.cond k16 (.seq (.ops [zV k6 (.i .i64 20)]) .ret) .skip)) (.seq (.ops [zO k18 (.ldn 30 (.s k5)),zC k19 112 [.s k18],zM k17 k19,zE k20 k17 0,zE k21 k17 1,zO k7 (.new 61 [.i .u64 0,.i .u64 0,.i .u64 0,.i .u64 0]),zS 4 k7 k20,zM k8 k21]) (.seq (.seq (.ops [zM k22 k8,zO k23 (.not (.s k22))]) (.cond k23 (.seq (.ops [zV k6 (.i .i64 90)]) .ret) .skip)) (.seq (.seq (.ops [zO k24 (.ldn 4 (.s k7)),zV k25 (.i .i64 0)]) (.block 0 (.loop (.seq (.ops [zB k26 .lss (.s k25) (zI 4)]) (.seq (.cond k26 .skip (.exit 0)) (.seq (.block 1 (.seq (.ops [zM k27 k25,zO k28 (.ix 4 1 false (.s k24) (.s k25)),zM k9 k27,zM k10 k28]) (.ops [zM k29 k0,zM k30 k1,zB k31 .add (.s k30) (zI 16),zM k32 k9,zB k33 .add (.s k31) (.s k32),zM k34 k10,zC k35 101 [.s k29,.s k33,.s k34]]))) (.ops [zB k36 .add (.s k25) (zI 1),zM k25 k36]))))))) (.seq (.seq (.ops [zF k37 14 k5,zO k38 (.ldn 16 (.s k37)),zV k39 (.i .i64 0)]) (.block 2 (.loop (.seq (.ops [zB k40 .lss (.s k39) (zI 16)]) (.seq (.cond k40 .skip (.exit 2)) (.seq (.block 3 (.seq (.ops [zM k41 k39,zO k42 (.ix 16 1 false (.s k38) (.s k39)),zM k11 k41,zM k12 k42]) (.ops [zM k43 k0,zM k44 k1,zB k45 .add (.s k44) (zI 32),zM k46 k11,zB k47 .add (.s k45) (.s k46),zM k48 k12,zC k49 101 [.s k43,.s k47,.s k48]]))) (.ops [zB k50 .add (.s k39) (zI 1),zM k39 k50]))))))) (.seq (.ops [zV k6 (.i .i64 0)]) .ret))))))),[.tmp k6]⟩
def i53:IFn:=⟨(.seq (.ops [zO k3 (.box 3 (.s k1)),zV k4 (.i .i64 0)]) (.seq (.ops [zM k5 k0,zL k6 k3,zO k7 (.mkf 114 [] [.s k3]),zC k8 113 [.s k5,.s k6,.s k7],zM k4 k8]) .ret)),[.tmp k4]⟩
def i56:IFn:=⟨(.seq (.ops [zV k4 (.i .i64 0)]) (.seq (.ops [zC k5 34 [],zM k6 k0,zM k7 k1,zC k8 108 [.s k5,.s k6,.s k7],zM k4 k8]) .ret)),[.tmp k4]⟩
def i57:IFn:=⟨(.seq (.ops [zV k6 .snil,zV k7 (.b false)]) (.seq (.seq (.ops [zM k8 k1,zB k9 .lss (.s k8) (zI 0),zM k10 k9,zG k11 k10 false (.mov (.s k2)),zG k12 k10 false (.bin .lss .num (.s k11) (zI 0)),zO k13 (.pick (.s k10) (.c (.b true)) (.s k12)),zM k14 k13,zG k15 k14 false (.mov (.s k1)),zG k16 k14 false (.mov (.s k0)),zG k17 k14 false (.nilc (.s k16)),zG k18 k14 false (.fad 0 (.s k17)),zG k19 k14 false (.ld (.s k18)),zG k20 k14 false (.lens (.s k19)),zG k21 k14 false (.bin .gtr .num (.s k15) (.s k20)),zO k22 (.pick (.s k14) (.c (.b true)) (.s k21)),zM k23 k22,zG k24 k23 false (.mov (.s k2)),zG k25 k23 false (.mov (.s k0)),zG k26 k23 false (.nilc (.s k25)),zG k27 k23 false (.fad 0 (.s k26)),zG k28 k23 false (.ld (.s k27)),zG k29 k23 false (.lens (.s k28)),zG k30 k23 false (.mov (.s k1)),zG k31 k23 false (.bin .sub .num (.s k29) (.s k30)),zG k32 k23 false (.bin .gtr .num (.s k24) (.s k31)),zO k33 (.pick (.s k23) (.c (.b true)) (.s k32))]) (.cond k33 (.seq (.ops [zV k6 .snil,zV k7 (.b false)]) .ret) .skip)) (.seq (.ops [zM k34 k0,zO k35 (.nilc (.s k34)),zF k36 0 k35,zL k37 k36,zM k38 k1,zM k39 k1,zM k40 k2,zB k41 .add (.s k39) (.s k40),zO k42 (.slc 1 (.s k37) (some (.s k38)) (some (.s k41)) none),zM k6 k42,zV k7 (.b true)]) .ret))),[.tmp k6,.tmp k7]⟩
def dr60:Nat->Option Dr:=fun r=>if Nat.beq r 5 then some (.tail 9 [9]) else if Nat.beq r 3 then some (.flo [] [(true,0),(true,1),(true,2),(true,3),(true,4),(true,5),(false,6)] [7] 8 [9]) else none
def dr62:Nat->Option Dr:=fun r=>if Nat.beq r 19 then some (.tail 10 [10]) else none
def dr68:Nat->Option Dr:=fun r=>if Nat.beq r 1 then some (.tail 18 [18,19,20]) else none
def i69:IFn:=⟨(.seq (.ops [zV k4 .snil,zV k5 (.i .i64 0)]) (.seq (.ops [zV k6 .snil]) (.seq (.ops [zV k7 (.i .i64 0)]) (.seq (.seq (.ops [zM k12 k1,zO k13 (.lens (.s k12)),zV k14 (.i .i64 0)]) (.block 0 (.loop (.seq (.ops [zB k15 .lss (.s k14) (.s k13)]) (.seq (.cond k15 .skip (.exit 0)) (.seq (.block 1 (.seq (.ops [zO k16 (.ixs 1 (.s k12) (.s k14)),zL k17 k16,zM k9 k17]) (.seq (.ops [zM k19 k0,zM k20 k7,zM k21 k9,zC k22 142 [.s k19,.s k20,.s k21],zM k18 k22,zE k23 k18 0,zE k24 k18 1,zM k10 k23,zM k11 k24]) (.seq (.seq (.ops [zM k25 k11,zB k26 .neq (.s k25) (zI 0)]) (.cond k26 (.seq (.ops [zM k27 k11,zV k4 .snil,zM k5 k27]) .ret) .skip)) (.seq (.ops [zM k28 k6,zM k29 k10,zO k30 (.bsl 41 1 [.i .u64 0] [(0,1,.s k29)]),zO k31 (.app 41 1 8 (.s k28) (.s k30)),zM k6 k31]) (.ops [zM k32 k7,zM k33 k9,zB k34 .add (.s k32) (.s k33),zM k7 k34])))))) (.ops [zB k35 .add (.s k14) (zI 1),zM k14 k35]))))))) (.seq (.seq (.ops [zM k36 k0,zM k37 k7,zB k38 .shr (.s k36) (.s k37),zB k39 .neq (.s k38) (zU 0)]) (.cond k39 (.seq (.ops [zV k4 .snil,zV k5 (.i .i64 10)]) .ret) .skip)) (.seq (.ops [zM k40 k6,zM k4 k40,zV k5 (.i .i64 0)]) .ret)))))),[.tmp k4,.tmp k5]⟩
def i70:IFn:=⟨(.seq (.ops [zV k4 (.b false)]) (.seq (.ops [zM k5 k0,zB k6 .geq (.s k5) (zI 0),zM k7 k6,zG k8 k7 true (.mov (.s k0)),zG k9 k7 true (.mov (.s k1)),zG k10 k7 true (.bin .leq .num (.s k8) (.s k9)),zO k11 (.pick (.s k7) (.s k10) (.c (.b false))),zM k4 k11]) .ret)),[.tmp k4]⟩
def rs71:List IR:=[.c1 k2,.c1 k3]
def yc71:YC:=(.seq (.ops [.o (.op (some k2) none (.new 30 [.snil])),.o (.op (some k3) none (.new 35 [(.i .i64 0)]))]) (.seq (.ops [.o (.op (some k4) none (.new 30 [.snil]))]) (.seq (.seq (.ops [.o (.op (some k6) none (.mov (.s k0))),.o (.op (some k7) none (.mov (.s k0))),.sub (some k8) 104 [(.s k7)] (.call (some k8) none (.c (.fn 104 [] [])) [(.s k7)]),.sub (some k9) 143 [(.s k6),(.s k8)] (.call (some k9) none (.c (.fn 143 [] [])) [(.s k6),(.s k8)])]) (.block 0 (.rng (.s k9) [k10,k11] (.ops [.o (.op (some k5) none (.mov (.s k10)))]) (.block 1 (.seq (.seq (.ops [.o (.op (some k12) none (.mov (.s k5))),.o (.op (some k13) none (.bin .eql .num (.s k12) (.c (.i .i64 0))))]) (.cond k13 (.seq (.ops [.o (.op none none (.st 1 (.s k2) (.c .snil))),.o (.op none none (.st 1 (.s k3) (.c (.i .i64 110))))]) .ret) .skip)) (.ops [.o (.op (some k14) none (.ld (.s k4))),.o (.op (some k15) none (.mov (.s k5))),.o (.op (some k16) none (.bsl 3 1 [(.i .i64 0)] [(0,1,(.s k15))])),.o (.op (some k17) none (.app 3 1 8 (.s k14) (.s k16))),.o (.op none none (.st 1 (.s k4) (.s k17)))])))))) (.seq (.ops [.o (.op (some k18) none (.ld (.s k4))),.o (.op none none (.st 1 (.s k2) (.s k18))),.o (.op none none (.st 1 (.s k3) (.c (.i .i64 0))))]) .ret))))
def dr72:Nat->Option Dr:=fun r=>if Nat.beq r 13 then some (.held [] [(true,0),(true,1),(true,2),(true,3),(true,4),(true,5),(true,6),(true,7),(true,8),(true,9),(true,10),(true,11),(true,12),(true,13),(false,14),(false,15)]) else none
def i72:IFn:=⟨(.seq (.ops [zO k4 (.new 113 [.i .i64 0,.i .i64 0,.i .i64 0,.i .i64 0,.i .i64 0,.i .i64 0,.i .i64 0,.i .i64 0,.i .i64 0,.i .i64 0,.i .i64 0,.i .i64 0,.i .i64 0,.i .i64 0]),zV k5 (.i .i64 0)]) (.seq (.seq (.ops [zM k13 k0,zM k14 k1,zC k15 96 [.s k13,.s k14],zO k16 (.not (.s k15))]) (.cond k16 (.seq (.ops [zO k17 (.agg [.i .i64 0,.i .i64 0,.i .i64 0,.i .i64 0,.i .i64 0,.i .i64 0,.i .i64 0,.i .i64 0,.i .i64 0,.i .i64 0,.i .i64 0,.i .i64 0,.i .i64 0,.i .i64 0] []),zS 14 k4 k17,zV k5 (.i .i64 20)]) .ret) .skip)) (.seq (.ops [zO k6 (.new 61 [.i .u64 0,.i .u64 0,.i .u64 0,.i .u64 0])]) (.seq (.seq (.ops [zV k18 (.i .i64 0)]) (.block 0 (.loop (.seq (.ops [zB k19 .lss (.s k18) (zI 4)]) (.seq (.cond k19 .skip (.exit 0)) (.seq (.block 1 (.seq (.ops [zM k20 k18,zM k7 k20]) (.ops [zM k22 k7,zM k23 k0,zM k24 k1,zM k25 k7,zB k26 .add (.s k24) (.s k25),zC k27 37 [.s k23,.s k26],zM k21 k27,zE k28 k21 0,zE k29 k21 1,zO k30 (.ixa 4 1 (.s k6) (.s k22)),zS 1 k30 k28]))) (.ops [zB k31 .add (.s k18) (zI 1),zM k18 k31]))))))) (.seq (.ops [zO k33 (.ixa 4 1 (.s k6) (zI 0)),zL k34 k33,zO k35 (.ixa 4 1 (.s k6) (zI 1)),zL k36 k35,zC k37 144 [.s k34,.s k36],zM k32 k37,zE k38 k32 0,zE k39 k32 1,zO k8 (.new 108 [.i .i64 0,.i .i64 0,.i .i64 0,.i .i64 0,.i .i64 0,.i .i64 0,.i .i64 0,.i .i64 0,.i .i64 0,.i .i64 0,.i .i64 0]),zS 11 k8 k38,zM k9 k39]) (.seq (.ops [zO k41 (.ixa 4 1 (.s k6) (zI 2)),zL k42 k41,zO k43 (.bsl 3 3 [.i .i64 0,.i .i64 0,.i .i64 0] [(0,1,zI 16),(1,1,zI 16),(2,1,zI 16)]),zC k44 69 [.s k42,.s k43],zM k40 k44,zE k45 k40 0,zE k46 k40 1,zM k10 k45,zM k11 k46]) (.seq (.seq (.ops [zM k47 k9,zB k48 .neq (.s k47) (zI 0),zM k49 k48,zG k50 k49 false (.mov (.s k11)),zG k51 k49 false (.bin .neq .num (.s k50) (zI 0)),zO k52 (.pick (.s k49) (.c (.b true)) (.s k51)),zM k53 k52,zG k54 k53 false (.ixa 4 1 (.s k6) (zI 3)),zG k55 k53 false (.ld (.s k54)),zG k56 k53 false (.bin .neq .num (.s k55) (zU 0)),zO k57 (.pick (.s k53) (.c (.b true)) (.s k56))]) (.cond k57 (.seq (.ops [zO k58 (.agg [.i .i64 0,.i .i64 0,.i .i64 0,.i .i64 0,.i .i64 0,.i .i64 0,.i .i64 0,.i .i64 0,.i .i64 0,.i .i64 0,.i .i64 0,.i .i64 0,.i .i64 0,.i .i64 0] []),zS 14 k4 k58,zV k5 (.i .i64 110)]) .ret) .skip)) (.seq (.hops [] [(true,zO k59 (.ldn 11 (.s k8))),(true,zM k60 k10),(true,zO k61 (.ixs 1 (.s k60) (zI 0))),(true,zL k62 k61),(true,zO k63 (.cv .i64 (.s k62))),(true,zM k64 k10),(true,zO k65 (.ixs 1 (.s k64) (zI 1))),(true,zL k66 k65),(true,zO k67 (.cv .i64 (.s k66))),(true,zM k68 k10),(true,zO k69 (.ixs 1 (.s k68) (zI 2))),(true,zL k70 k69),(true,zO k71 (.cv .i64 (.s k70))),(true,zO k72 (.agg [.i .i64 0,.i .i64 0,.i .i64 0,.i .i64 0,.i .i64 0,.i .i64 0,.i .i64 0,.i .i64 0,.i .i64 0,.i .i64 0,.i .i64 0,.i .i64 0,.i .i64 0,.i .i64 0] [(0,11,.s k59),(11,1,.s k63),(12,1,.s k67),(13,1,.s k71)])),(false,zO k12 (.new 113 [.i .i64 0,.i .i64 0,.i .i64 0,.i .i64 0,.i .i64 0,.i .i64 0,.i .i64 0,.i .i64 0,.i .i64 0,.i .i64 0,.i .i64 0,.i .i64 0,.i .i64 0,.i .i64 0])),(false,zS 14 k12 k72)]) (.seq (.seq (.ops [zO k73 (.ldn 14 (.s k12)),zC k74 97 [.s k73],zO k75 (.not (.s k74))]) (.cond k75 (.seq (.ops [zO k76 (.agg [.i .i64 0,.i .i64 0,.i .i64 0,.i .i64 0,.i .i64 0,.i .i64 0,.i .i64 0,.i .i64 0,.i .i64 0,.i .i64 0,.i .i64 0,.i .i64 0,.i .i64 0,.i .i64 0] []),zS 14 k4 k76,zV k5 (.i .i64 110)]) .ret) .skip)) (.seq (.ops [zO k77 (.ldn 14 (.s k12)),zS 14 k4 k77,zV k5 (.i .i64 0)]) .ret)))))))))),[.cn 14 k4,.tmp k5]⟩
def i73:IFn:=⟨(.seq (.ops [zV k2 (.b false)]) (.seq (.ops [zM k3 k0,zO k4 (.nilc (.s k3)),zF k5 5 k4,zL k6 k5,zM k2 k6]) .ret)),[.tmp k2]⟩
def i75:IFn:=⟨(.seq (.ops [zV k2 (.b false)]) (.seq (.ops [zM k3 k0,zO k4 (.nilc (.s k3)),zF k5 2 k4,zL k6 k5,zC k7 148 [.s k6,(.c (.fn 149 [] []))],zO k8 (.not (.s k7)),zM k2 k8]) .ret)),[.tmp k2]⟩
def dr77:Nat->Option Dr:=fun r=>if Nat.beq r 10 then some (.heldK [0,6,4] [(true,0),(true,1),(true,2),(true,3),(false,4),(true,5),(true,6),(true,7),(true,8),(true,9),(true,10),(true,11),(true,12),(false,13),(true,14),(true,15),(true,16),(true,17),(true,18),(true,19),(true,20),(true,21),(true,22),(true,23),(true,24),(true,25),(true,26),(true,27),(false,28),(false,29),(true,30),(true,31)]) else none
def dr78:Nat->Option Dr:=fun r=>if Nat.beq r 11 then some (.heldK [7] [(true,0),(true,1),(true,2),(false,3),(true,4),(true,5),(true,6),(true,7),(false,8),(true,9),(true,10),(true,11),(true,12),(true,13),(true,14),(true,15),(true,16),(true,17),(true,20),(false,18),(true,19),(true,21),(true,22)]) else if Nat.beq r 6 then some (.heldK [4] [(true,0),(true,1),(true,2),(true,3),(true,4),(true,5),(true,6),(true,7),(true,8),(false,9),(true,10),(false,11),(true,12)]) else none
def rs80:List IR:=[.c1 k2]
def yc80:YC:=(.seq (.ops [.o (.op (some k1) none (.box 99 (.s k0))),.o (.op (some k2) none (.new 4 [(.b false)]))]) (.seq (.seq (.ops [.o (.op (some k6) none (.ld (.s k1))),.o (.op (some k7) none (.nilc (.s k6))),.o (.op (some k8) none (.fad 1 (.s k7))),.o (.op (some k9) none (.ld (.s k8))),.o (.op (some k10) none (.ixs 1 (.s k9) (.c (.i .i64 1)))),.o (.op (some k11) none (.ld (.s k10))),.o (.op (some k3) none (.mov (.s k11)))]) (.seq (.ops [.o (.op (some k12) none (.mov (.s k3))),.o (.op (some k13) none (.bin .gtr .num (.s k12) (.c (.i .u64 65535)))),.o (.op (some k14) none (.mov (.s k13))),.o (.op (some k15) (some (k14,false)) (.mov (.s k3))),.o (.op (some k16) (some (k14,false)) (.bin .neq .num (.s k15) (.c (.i .u64 0)))),.o (.op (some k17) (some (k14,false)) (.mov (.s k16))),.o (.op (some k18) (some (k17,true)) (.ld (.s k1))),.o (.op (some k19) (some (k17,true)) (.mov (.s k3))),.o (.op (some k20) (some (k17,true)) (.cv .i64 (.s k19))),.o (.call (some k21) (some (k17,true)) (.c (.fn 159 [] [])) [(.s k18),(.c (.i .i64 3)),(.s k20)]),.o (.op (some k22) (some (k17,true)) (.not (.s k21))),.o (.op (some k23) (some (k14,false)) (.pick (.s k17) (.s k22) (.c (.b false)))),.o (.op (some k24) none (.pick (.s k14) (.c (.b true)) (.s k23)))]) (.cond k24 (.seq (.ops [.o (.op none none (.st 1 (.s k2) (.c (.b false))))]) .ret) .skip))) (.seq (.seq (.ops [.o (.op (some k25) none (.ld (.s k1))),.sub (some k26) 160 [(.s k25),(.c (.i .i64 3))] (.call (some k26) none (.c (.fn 160 [] [])) [(.s k25),(.c (.i .i64 3))])]) (.block 0 (.rng (.s k26) [k27] (.ops [.o (.op (some k4) none (.new 151 [(.i .i64 0),(.i .i64 0),(.i .i64 0),(.i .i64 0),(.i .i64 0),(.i .i64 0),(.i .i64 0),(.i .i64 0),(.i .i64 0),(.i .i64 0),(.i .i64 0),(.i .i64 0),(.i .i64 0),(.i .i64 0),(.i .i64 0),(.i .i64 0)])),.o (.op none none (.st 16 (.s k4) (.s k27)))]) (.block 1 (.seq (.ops [.o (.op (some k28) none (.ld (.s k1))),.o (.op (some k29) none (.fad 2 (.s k4))),.o (.op (some k30) none (.fad 0 (.s k29))),.o (.op (some k31) none (.fad 1 (.s k30))),.o (.op (some k32) none (.ld (.s k31))),.sub (some k33) 161 [(.s k28),(.s k32),(.c (.b false))] (.call (some k33) none (.c (.fn 161 [] [])) [(.s k28),(.s k32),(.c (.b false))]),.o (.op (some k34) none (.not (.s k33)))]) (.cond k34 (.seq (.ops [.o (.op none none (.st 1 (.s k2) (.c (.b false))))]) .ret) .skip)))))) (.seq (.seq (.ops [.o (.op (some k35) none (.ld (.s k1))),.sub (some k36) 160 [(.s k35),(.c (.i .i64 10))] (.call (some k36) none (.c (.fn 160 [] [])) [(.s k35),(.c (.i .i64 10))])]) (.block 2 (.rng (.s k36) [k37] (.ops [.o (.op (some k5) none (.new 151 [(.i .i64 0),(.i .i64 0),(.i .i64 0),(.i .i64 0),(.i .i64 0),(.i .i64 0),(.i .i64 0),(.i .i64 0),(.i .i64 0),(.i .i64 0),(.i .i64 0),(.i .i64 0),(.i .i64 0),(.i .i64 0),(.i .i64 0),(.i .i64 0)])),.o (.op none none (.st 16 (.s k5) (.s k37)))]) (.block 3 (.seq (.ops [.o (.op (some k38) none (.fad 2 (.s k5))),.o (.op (some k39) none (.fad 0 (.s k38))),.o (.op (some k40) none (.fad 2 (.s k39))),.o (.op (some k41) none (.ld (.s k40))),.o (.op (some k42) none (.bin .eql .num (.s k41) (.c (.i .i64 31)))),.o (.op (some k43) none (.mov (.s k42))),.o (.op (some k44) (some (k43,true)) (.ld (.s k1))),.o (.op (some k45) (some (k43,true)) (.fad 2 (.s k5))),.o (.op (some k46) (some (k43,true)) (.fad 0 (.s k45))),.o (.op (some k47) (some (k43,true)) (.fad 1 (.s k46))),.o (.op (some k48) (some (k43,true)) (.ld (.s k47))),.o (.call (some k49) (some (k43,true)) (.c (.fn 161 [] [])) [(.s k44),(.s k48),(.c (.b true))]),.o (.op (some k50) (some (k43,true)) (.not (.s k49))),.o (.op (some k51) none (.pick (.s k43) (.s k50) (.c (.b false))))]) (.cond k51 (.seq (.ops [.o (.op none none (.st 1 (.s k2) (.c (.b false))))]) .ret) .skip)))))) (.seq (.ops [.o (.op none none (.st 1 (.s k2) (.c (.b true))))]) .ret)))))
def dr81:Nat->Option Dr:=fun r=>if Nat.beq r 20 then some (.heldK [0,5] [(true,0),(true,1),(true,2),(true,3),(true,4),(false,5),(false,6),(false,7),(true,8),(true,9),(true,10),(true,11),(true,12),(true,13),(true,14),(true,16),(false,15),(true,17),(true,18),(true,19),(true,20),(true,21),(false,22),(true,23),(true,24),(true,25)]) else if Nat.beq r 12 then some (.tail 7 [7,8,9]) else if Nat.beq r 6 then some (.tail 6 [6,7,8]) else none
end Go.Ev.X
end
