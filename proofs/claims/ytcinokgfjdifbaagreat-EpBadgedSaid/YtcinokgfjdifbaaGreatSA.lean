import Derived.Test.YtcinokgfjdifbaaGreatE4
import Derived.Test.YtcinokgfjdifbaaGreatE3
set_option linter.unusedSimpArgs false
set_option linter.unusedVariables false
set_option maxRecDepth 100000
noncomputable section
namespace Go.Ev.X
open Go Go.Ev
def k0:Ky:=.k1 .x0
def k1:Ky:=.k1 .x1
def k2:Ky:=.k1 .x2
def k3:Ky:=.k1 .x3
def k4:Ky:=.k1 .x4
def k5:Ky:=.k1 .x5
def k6:Ky:=.k1 .x6
def k7:Ky:=.k1 .x7
def k8:Ky:=.k1 .x8
def k9:Ky:=.k1 .x9
def k10:Ky:=.k1 .xa
def k11:Ky:=.k1 .xb
def k12:Ky:=.k1 .xc
def k13:Ky:=.k1 .xd
def k14:Ky:=.k1 .xe
def k15:Ky:=.k1 .xf
def k16:Ky:=.k2 .x0 .x0
def k17:Ky:=.k2 .x0 .x1
def k18:Ky:=.k2 .x0 .x2
def k19:Ky:=.k2 .x0 .x3
def k20:Ky:=.k2 .x0 .x4
def k21:Ky:=.k2 .x0 .x5
def k22:Ky:=.k2 .x0 .x6
def k23:Ky:=.k2 .x0 .x7
def k24:Ky:=.k2 .x0 .x8
def k25:Ky:=.k2 .x0 .x9
def k26:Ky:=.k2 .x0 .xa
def k27:Ky:=.k2 .x0 .xb
def k28:Ky:=.k2 .x0 .xc
def k29:Ky:=.k2 .x0 .xd
def k30:Ky:=.k2 .x0 .xe
def k31:Ky:=.k2 .x0 .xf
def k32:Ky:=.k2 .x1 .x0
def k33:Ky:=.k2 .x1 .x1
def k34:Ky:=.k2 .x1 .x2
def k35:Ky:=.k2 .x1 .x3
def k36:Ky:=.k2 .x1 .x4
def k37:Ky:=.k2 .x1 .x5
def k38:Ky:=.k2 .x1 .x6
def k39:Ky:=.k2 .x1 .x7
def k40:Ky:=.k2 .x1 .x8
def k41:Ky:=.k2 .x1 .x9
def k42:Ky:=.k2 .x1 .xa
def k43:Ky:=.k2 .x1 .xb
def k44:Ky:=.k2 .x1 .xc
def k45:Ky:=.k2 .x1 .xd
def k46:Ky:=.k2 .x1 .xe
def k47:Ky:=.k2 .x1 .xf
def k48:Ky:=.k2 .x2 .x0
def k49:Ky:=.k2 .x2 .x1
def k50:Ky:=.k2 .x2 .x2
def k51:Ky:=.k2 .x2 .x3
def k52:Ky:=.k2 .x2 .x4
def k53:Ky:=.k2 .x2 .x5
def k54:Ky:=.k2 .x2 .x6
def k55:Ky:=.k2 .x2 .x7
def k56:Ky:=.k2 .x2 .x8
def k57:Ky:=.k2 .x2 .x9
def k58:Ky:=.k2 .x2 .xa
def k59:Ky:=.k2 .x2 .xb
def k60:Ky:=.k2 .x2 .xc
def k61:Ky:=.k2 .x2 .xd
def k62:Ky:=.k2 .x2 .xe
def k63:Ky:=.k2 .x2 .xf
def k64:Ky:=.k2 .x3 .x0
def k65:Ky:=.k2 .x3 .x1
def k66:Ky:=.k2 .x3 .x2
def k67:Ky:=.k2 .x3 .x3
def k68:Ky:=.k2 .x3 .x4
def k69:Ky:=.k2 .x3 .x5
def k70:Ky:=.k2 .x3 .x6
def k71:Ky:=.k2 .x3 .x7
def k72:Ky:=.k2 .x3 .x8
def k73:Ky:=.k2 .x3 .x9
def k74:Ky:=.k2 .x3 .xa
def k75:Ky:=.k2 .x3 .xb
def k76:Ky:=.k2 .x3 .xc
def k77:Ky:=.k2 .x3 .xd
def k78:Ky:=.k2 .x3 .xe
def k79:Ky:=.k2 .x3 .xf
def k80:Ky:=.k2 .x4 .x0
def k81:Ky:=.k2 .x4 .x1
def k82:Ky:=.k2 .x4 .x2
def k83:Ky:=.k2 .x4 .x3
def k84:Ky:=.k2 .x4 .x4
def k85:Ky:=.k2 .x4 .x5
def k86:Ky:=.k2 .x4 .x6
def k87:Ky:=.k2 .x4 .x7
def k88:Ky:=.k2 .x4 .x8
def k89:Ky:=.k2 .x4 .x9
def k90:Ky:=.k2 .x4 .xa
def k91:Ky:=.k2 .x4 .xb
def k92:Ky:=.k2 .x4 .xc
def k93:Ky:=.k2 .x4 .xd
def k94:Ky:=.k2 .x4 .xe
def k95:Ky:=.k2 .x4 .xf
def k96:Ky:=.k2 .x5 .x0
def k97:Ky:=.k2 .x5 .x1
def k98:Ky:=.k2 .x5 .x2
def k99:Ky:=.k2 .x5 .x3
def k100:Ky:=.k2 .x5 .x4
def k101:Ky:=.k2 .x5 .x5
def k102:Ky:=.k2 .x5 .x6
def k103:Ky:=.k2 .x5 .x7
def k104:Ky:=.k2 .x5 .x8
def k105:Ky:=.k2 .x5 .x9
def k106:Ky:=.k2 .x5 .xa
def k107:Ky:=.k2 .x5 .xb
def k108:Ky:=.k2 .x5 .xc
def k109:Ky:=.k2 .x5 .xd
def k110:Ky:=.k2 .x5 .xe
def k111:Ky:=.k2 .x5 .xf
def k112:Ky:=.k2 .x6 .x0
def k113:Ky:=.k2 .x6 .x1
def k114:Ky:=.k2 .x6 .x2
def k115:Ky:=.k2 .x6 .x3
def k116:Ky:=.k2 .x6 .x4
def k117:Ky:=.k2 .x6 .x5
def k118:Ky:=.k2 .x6 .x6
def k119:Ky:=.k2 .x6 .x7
def k120:Ky:=.k2 .x6 .x8
def k121:Ky:=.k2 .x6 .x9
def k122:Ky:=.k2 .x6 .xa
def k123:Ky:=.k2 .x6 .xb
def k124:Ky:=.k2 .x6 .xc
def k125:Ky:=.k2 .x6 .xd
def k126:Ky:=.k2 .x6 .xe
def k127:Ky:=.k2 .x6 .xf
def k128:Ky:=.k2 .x7 .x0
def k129:Ky:=.k2 .x7 .x1
def k130:Ky:=.k2 .x7 .x2
def k131:Ky:=.k2 .x7 .x3
def k132:Ky:=.k2 .x7 .x4
def k133:Ky:=.k2 .x7 .x5
def k134:Ky:=.k2 .x7 .x6
def k135:Ky:=.k2 .x7 .x7
def k136:Ky:=.k2 .x7 .x8
def k137:Ky:=.k2 .x7 .x9
def k138:Ky:=.k2 .x7 .xa
def k139:Ky:=.k2 .x7 .xb
def k140:Ky:=.k2 .x7 .xc
def k141:Ky:=.k2 .x7 .xd
def k142:Ky:=.k2 .x7 .xe
def k143:Ky:=.k2 .x7 .xf
def k144:Ky:=.k2 .x8 .x0
def k145:Ky:=.k2 .x8 .x1
def k146:Ky:=.k2 .x8 .x2
def k147:Ky:=.k2 .x8 .x3
def k148:Ky:=.k2 .x8 .x4
def k149:Ky:=.k2 .x8 .x5
def k150:Ky:=.k2 .x8 .x6
def k151:Ky:=.k2 .x8 .x7
def dr4:Nat->Option Dr:=fun r=>if Nat.beq r 18 then some (.floK [14,8] [(true,0),(true,1),(true,2),(true,3),(true,4),(true,5),(true,6),(true,7),(false,8),(true,9),(true,10),(true,11)] 12 [13,14]) else none
def dr6:Nat->Option Dr:=fun r=>if Nat.beq r 9 then some (.tail 6 [6]) else none
def dr8:Nat->Option Dr:=fun r=>if Nat.beq r 21 then some (.tail 8 [8]) else if Nat.beq r 20 then some (.tail 8 [8]) else none
def zT:List V:=[(.i .i64 0),(.i .i64 0),(.i .i64 0),(.b false),(.i .i64 0),(.i .i64 0),(.i .i64 0),(.i .i64 0),(.b false),(.b false),(.i .i64 0),(.i .i64 0),(.i .i64 0),(.i .i64 0),(.i .u64 0),(.i .u64 0),(.i .u64 0),(.i .u64 0),(.i .u64 0),(.i .u64 0),(.i .u64 0),(.i .u64 0),(.i .u64 0),(.i .u64 0),(.i .u64 0),(.i .u64 0),(.i .u64 0),(.i .u64 0),(.i .u64 0),(.i .u64 0)]
def zS (n:Nat) (a b:Ky):OI:=.op none none (.st n (.s a) (.s b))
def drN:Nat->Option Dr:=fun _=>none
def zM (a b:Ky):OI:=.op (some a) none (.mov (.s b))
def zV (a:Ky) (v:V):OI:=.op (some a) none (.mov (.c v))
def zO (a:Ky) (o:IOp):OI:=.op (some a) none o
def zL (a b:Ky):OI:=.op (some a) none (.ld (.s b))
def zF (a:Ky) (n:Nat) (b:Ky):OI:=.op (some a) none (.fad n (.s b))
def zB (a:Ky) (o:BinOp) (x y:Od):OI:=.op (some a) none (.bin o .num x y)
def zE (a b:Ky) (n:Nat):OI:=.op (some a) none (.ext (.s b) n)
def zC (a:Ky) (n:Nat) (l:List Od):OI:=.call (some a) none (.c (.fn n [] [])) l
def zG (a c:Ky) (t:Bool) (o:IOp):OI:=.op (some a) (some (c,t)) o
def zI (n:Int):Od:=.c (.i .i64 n)
def zU (n:Int):Od:=.c (.i .u64 n)
def i9:IFn:=⟨(.seq (.ops [zV k2 (.i .i64 0)]) (.seq (.ops [zM k3 k0,zC k4 31 [.s k3,zI 3],zB k5 .mul (zI 4) (.s k4),zB k6 .add (zI 3120) (.s k5),zM k2 k6]) .ret)),[.tmp k2]⟩
def rs10:List IR:=[.tmp k4]
def yc10:YC:=(.seq (.ops [.o (.op (some k4) none (.mov (.c .snil)))]) (.seq (.ops [.o (.op (some k5) none (.new 30 [.snil]))]) (.seq (.seq (.ops [.mv k7 k0 (.op (some k7) none (.mov (.s k0))),.mv k8 k1 (.op (some k8) none (.mov (.s k1))),.o (.call (some k9) none (.c (.fn 35 [] [])) [(.s k7),(.s k8)])]) (.block 0 (.rng (.s k9) [k10] (.ops [.mv k6 k10 (.op (some k6) none (.mov (.s k10)))]) (.block 1 (.ops [.o (.op (some k11) none (.ld (.s k5))),.mv k12 k6 (.op (some k12) none (.mov (.s k6))),.o (.op (some k13) none (.bsl 3 1 [(.i .i64 0)] [(0,1,(.s k12))])),.o (.op (some k14) none (.app 3 1 8 (.s k11) (.s k13))),.o (.op none none (.st 1 (.s k5) (.s k14)))]))))) (.seq (.ops [.o (.op (some k15) none (.ld (.s k5))),.mv k4 k15 (.op (some k4) none (.mov (.s k15)))]) .ret))))
def dr12:Nat->Option Dr:=fun r=>if Nat.beq r 6 then some (.tail 8 [8]) else none
def dr13:Nat->Option Dr:=fun r=>if Nat.beq r 15 then some (.held [] [(true,0),(true,1),(true,2),(true,3),(true,4),(true,5),(true,6),(true,7),(true,8),(true,9),(true,10),(true,11),(true,12),(true,13),(true,14),(true,15),(true,16),(true,17),(true,18),(true,19),(true,20),(true,21),(true,22),(true,23),(true,24),(true,25),(true,26),(true,27),(true,28),(true,29),(true,30),(true,31),(true,32),(true,33),(true,34),(true,35),(true,36),(true,37),(true,38),(true,39),(true,40),(true,41),(true,42),(true,43),(true,44),(true,45),(false,46),(false,47)]) else none
def i13:IFn:=⟨(.seq (.ops [zO k4 (.new 42 zT),zV k5 (.i .i64 0)]) (.seq (.seq (.ops [zM k18 k0,zM k19 k1,zC k20 37 [.s k18,.s k19,zI 64],zO k21 (.not (.s k20))]) (.cond k21 (.seq (.ops [zO k22 (.agg zT []),zS 30 k4 k22,zV k5 (.i .i64 20)]) .ret) .skip)) (.seq (.ops [zO k6 (.new 74 [.i .u64 0,.i .u64 0,.i .u64 0,.i .u64 0])]) (.seq (.seq (.ops [zV k23 (.i .i64 0)]) (.block 0 (.loop (.seq (.ops [zB k24 .lss (.s k23) (zI 4)]) (.seq (.cond k24 .skip (.exit 0)) (.seq (.block 1 (.seq (.ops [zM k25 k23,zM k7 k25]) (.ops [zM k27 k7,zM k28 k0,zM k29 k1,zB k30 .add (.s k29) (zI 16),zM k31 k7,zB k32 .add (.s k30) (.s k31),zC k33 38 [.s k28,.s k32],zM k26 k33,zE k34 k26 0,zE k35 k26 1,zO k36 (.ixa 4 1 (.s k6) (.s k27)),zS 1 k36 k34]))) (.ops [zB k37 .add (.s k23) (zI 1),zM k23 k37]))))))) (.seq (.ops [zO k39 (.ixa 4 1 (.s k6) (zI 0)),zL k40 k39,zO k41 (.bsl 3 7 [.i .i64 0,.i .i64 0,.i .i64 0,.i .i64 0,.i .i64 0,.i .i64 0,.i .i64 0] [(0,1,zI 3),(1,1,zI 8),(2,1,zI 3),(3,1,zI 1),(4,1,zI 1),(5,1,zI 1),(6,1,zI 2)]),zC k42 39 [.s k40,.s k41],zM k38 k42,zE k43 k38 0,zE k44 k38 1,zM k8 k43,zM k9 k44]) (.seq (.ops [zO k46 (.ixa 4 1 (.s k6) (zI 1)),zL k47 k46,zO k48 (.bsl 3 4 [.i .i64 0,.i .i64 0,.i .i64 0,.i .i64 0] [(0,1,zI 16),(1,1,zI 16),(2,1,zI 16),(3,1,zI 16)]),zC k49 39 [.s k47,.s k48],zM k45 k49,zE k50 k45 0,zE k51 k45 1,zM k10 k50,zM k11 k51]) (.seq (.ops [zO k53 (.ixa 4 1 (.s k6) (zI 2)),zL k54 k53,zO k55 (.bsl 3 1 [.i .i64 0] [(0,1,zI 28)]),zC k56 39 [.s k54,.s k55],zM k52 k56,zE k57 k52 0,zE k58 k52 1,zM k12 k57,zM k13 k58]) (.seq (.ops [zO k60 (.ixa 4 1 (.s k6) (zI 3)),zL k61 k60,zO k62 (.bsl 3 2 [.i .i64 0,.i .i64 0] [(0,1,zI 32),(1,1,zI 32)]),zC k63 39 [.s k61,.s k62],zM k59 k63,zE k64 k59 0,zE k65 k59 1,zM k14 k64,zM k15 k65]) (.seq (.seq (.ops [zM k66 k9,zO k67 (.not (.s k66)),zM k68 k67,zG k69 k68 false (.mov (.s k11)),zG k70 k68 false (.not (.s k69)),zO k71 (.pick (.s k68) (.c (.b true)) (.s k70)),zM k72 k71,zG k73 k72 false (.mov (.s k13)),zG k74 k72 false (.not (.s k73)),zO k75 (.pick (.s k72) (.c (.b true)) (.s k74)),zM k76 k75,zG k77 k76 false (.mov (.s k8)),zG k78 k76 false (.ixs 1 (.s k77) (zI 0)),zG k79 k76 false (.ld (.s k78)),zG k80 k76 false (.bin .gtr .num (.s k79) (zI 5)),zO k81 (.pick (.s k76) (.c (.b true)) (.s k80)),zM k82 k81,zG k83 k82 false (.mov (.s k8)),zG k84 k82 false (.ixs 1 (.s k83) (zI 2)),zG k85 k82 false (.ld (.s k84)),zG k86 k82 false (.bin .gtr .num (.s k85) (zI 5)),zO k87 (.pick (.s k82) (.c (.b true)) (.s k86))]) (.cond k87 (.seq (.ops [zO k88 (.agg zT []),zS 30 k4 k88,zV k5 (.i .i64 90)]) .ret) .skip)) (.seq (.hops [] [(true,zM k89 k8),(true,zO k90 (.ixs 1 (.s k89) (zI 0))),(true,zL k91 k90),(true,zM k92 k8),(true,zO k93 (.ixs 1 (.s k92) (zI 1))),(true,zL k94 k93),(true,zM k95 k8),(true,zO k96 (.ixs 1 (.s k95) (zI 2))),(true,zL k97 k96),(true,zM k98 k8),(true,zO k99 (.ixs 1 (.s k98) (zI 3))),(true,zL k100 k99),(true,zB k101 .eql (.s k100) (zI 1)),(true,zM k102 k8),(true,zO k103 (.ixs 1 (.s k102) (zI 4))),(true,zL k104 k103),(true,zB k105 .eql (.s k104) (zI 1)),(true,zM k106 k8),(true,zO k107 (.ixs 1 (.s k106) (zI 5))),(true,zL k108 k107),(true,zB k109 .eql (.s k108) (zI 1)),(true,zM k110 k8),(true,zO k111 (.ixs 1 (.s k110) (zI 6))),(true,zL k112 k111),(true,zM k113 k10),(true,zO k114 (.ixs 1 (.s k113) (zI 0))),(true,zL k115 k114),(true,zM k116 k10),(true,zO k117 (.ixs 1 (.s k116) (zI 1))),(true,zL k118 k117),(true,zM k119 k10),(true,zO k120 (.ixs 1 (.s k119) (zI 2))),(true,zL k121 k120),(true,zM k122 k10),(true,zO k123 (.ixs 1 (.s k122) (zI 3))),(true,zL k124 k123),(true,zM k125 k12),(true,zO k126 (.ixs 1 (.s k125) (zI 0))),(true,zL k127 k126),(true,zM k128 k14),(true,zO k129 (.ixs 1 (.s k128) (zI 0))),(true,zL k130 k129),(true,zM k131 k14),(true,zO k132 (.ixs 1 (.s k131) (zI 1))),(true,zL k133 k132),(true,zO k134 (.agg zT [(0,1,.s k91),(1,1,.s k94),(2,1,.s k97),(3,1,.s k101),(8,1,.s k105),(9,1,.s k109),(12,1,.s k112),(4,1,.s k115),(5,1,.s k118),(6,1,.s k121),(10,1,.s k124),(7,1,.s k127),(11,1,.s k130),(13,1,.s k133)])),(false,zO k16 (.new 42 zT)),(false,zS 30 k16 k134)]) (.seq (.seq (.ops [zV k135 (.i .i64 0)]) (.block 2 (.loop (.seq (.ops [zB k136 .lss (.s k135) (zI 16)]) (.seq (.cond k136 .skip (.exit 2)) (.seq (.block 3 (.seq (.ops [zM k137 k135,zM k17 k137]) (.ops [zM k139 k17,zM k140 k0,zM k141 k1,zB k142 .add (.s k141) (zI 32),zM k143 k17,zB k144 .add (.s k142) (.s k143),zC k145 38 [.s k140,.s k144],zM k138 k145,zE k146 k138 0,zE k147 k138 1,zF k148 14 k16,zO k149 (.ixa 16 1 (.s k148) (.s k139)),zS 1 k149 k146]))) (.ops [zB k150 .add (.s k135) (zI 1),zM k135 k150]))))))) (.seq (.ops [zO k151 (.ldn 30 (.s k16)),zS 30 k4 k151,zV k5 (.i .i64 0)]) .ret)))))))))))),[.cn 30 k4,.tmp k5]⟩
def dr15:Nat->Option Dr:=fun r=>if Nat.beq r 5 then some (.held [] [(true,0),(true,1),(true,2),(true,3),(true,4),(true,5),(true,6),(true,7),(true,8),(true,9),(false,10),(false,11)]) else none
def i19:IFn:=⟨(.seq (.ops [zV k4 (.i .i64 0)]) (.seq (.ops [zM k5 k0,zM k6 k1,zC k7 41 [.s k5,.s k6],zO k8 (.fld 1 1 false (.s k7)),zM k4 k8]) .ret)),[.tmp k4]⟩
def dr20:Nat->Option Dr:=fun r=>if Nat.beq r 3 then some (.held [10] [(true,0),(true,1),(true,2),(true,3),(true,4),(false,5),(true,6),(false,7),(true,8),(false,9),(true,10),(false,11)]) else none
def dr25:Nat->Option Dr:=fun r=>if Nat.beq r 17 then some (.tail 6 [6]) else if Nat.beq r 16 then some (.tail 6 [6]) else none
def i35:IFn:=⟨(.seq (.ops [zO k2 (.box 33 (.s k0)),zO k3 (.box 3 (.s k1)),zV k4 .fnil]) (.seq (.ops [zO k5 (.mkf 77 [] [.s k2,.s k3]),zM k4 k5]) .ret)),[.tmp k4]⟩
def i37:IFn:=⟨(.seq (.ops [zV k6 (.b false)]) (.seq (.ops [zM k7 k1,zB k8 .geq (.s k7) (zI 1024),zM k9 k8,zG k10 k9 true (.mov (.s k1)),zG k11 k9 true (.mov (.s k2)),zG k12 k9 true (.bin .rem .num (.s k10) (.s k11)),zG k13 k9 true (.bin .eql .num (.s k12) (zI 0)),zO k14 (.pick (.s k9) (.s k13) (.c (.b false))),zM k15 k14,zG k16 k15 true (.mov (.s k1)),zG k17 k15 true (.mov (.s k0)),.call (some k18) (some (k15,true)) (.c (.fn 78 [] [])) [.s k17],zG k19 k15 true (.mov (.s k2)),zG k20 k15 true (.bin .sub .num (.s k18) (.s k19)),zG k21 k15 true (.bin .leq .num (.s k16) (.s k20)),zO k22 (.pick (.s k15) (.s k21) (.c (.b false))),zM k6 k22]) .ret)),[.tmp k6]⟩
def i38:IFn:=⟨(.seq (.ops [zV k4 (.i .u64 0),zV k5 (.i .i64 0)]) (.seq (.ops [zM k9 k0,zM k10 k1,zC k11 55 [.s k9,.s k10,zI 1],zM k8 k11,zE k12 k8 0,zE k13 k8 1,zM k6 k12,zM k7 k13]) (.seq (.seq (.ops [zM k14 k7,zO k15 (.not (.s k14))]) (.cond k15 (.seq (.ops [zV k4 (.i .u64 0),zV k5 (.i .i64 20)]) .ret) .skip)) (.seq (.ops [zM k16 k0,zO k17 (.nilc (.s k16)),zF k18 1 k17,zL k19 k18,zB k20 .add (.s k19) (zI 1),zO k21 (.nilc (.s k16)),zF k22 1 k21,zS 1 k22 k20]) (.seq (.ops [zM k23 k6,zO k24 (.ixs 1 (.s k23) (zI 0)),zL k25 k24,zM k4 k25,zV k5 (.i .i64 0)]) .ret))))),[.tmp k4,.tmp k5]⟩
def i39:IFn:=⟨(.seq (.ops [zV k4 .snil,zV k5 (.b false)]) (.seq (.ops [zM k12 k0,zM k13 k1,zC k14 79 [.s k12,.s k13],zM k11 k14,zE k15 k11 0,zE k16 k11 1,zM k6 k15,zM k7 k16]) (.seq (.ops [zM k17 k1,zO k18 (.lens (.s k17)),zO k19 (.msl 3 (.i .i64 0) 1 8 (.s k18) (.s k18)),zM k8 k19]) (.seq (.seq (.ops [zM k20 k6,zO k21 (.lens (.s k20)),zV k22 (.i .i64 0)]) (.block 0 (.loop (.seq (.ops [zB k23 .lss (.s k22) (.s k21)]) (.seq (.cond k23 .skip (.exit 0)) (.seq (.block 1 (.seq (.ops [zM k24 k22,zO k25 (.ixs 1 (.s k20) (.s k22)),zL k26 k25,zM k9 k24,zM k10 k26]) (.ops [zM k27 k8,zM k28 k9,zM k29 k10,zO k30 (.cv .i64 (.s k29)),zO k31 (.ixs 1 (.s k27) (.s k28)),zS 1 k31 k30]))) (.ops [zB k32 .add (.s k22) (zI 1),zM k22 k32]))))))) (.seq (.ops [zM k33 k8,zM k34 k7,zB k35 .eql (.s k34) (zI 0),zM k4 k33,zM k5 k35]) .ret))))),[.tmp k4,.tmp k5]⟩
def i48:IFn:=⟨(.seq (.ops [zO k5 (.box 42 (.s k2))]) (.ops [zM k6 k0,zM k7 k1,zO k8 (.ldn 30 (.s k5)),zC k9 59 [.s k6,.s k7,.s k8]])),[]⟩
def i49:IFn:=⟨(.seq (.ops [zO k5 (.box 48 (.s k2))]) (.ops [zM k6 k0,zM k7 k1,zO k8 (.ldn 3 (.s k5)),zC k9 82 [.s k6,.s k7,.s k8]])),[]⟩
def i51:IFn:=⟨(.seq (.ops [zO k5 (.box 42 (.s k2))]) (.ops [zM k6 k0,zM k7 k1,zO k8 (.ldn 30 (.s k5)),zC k9 83 [.s k6,.s k7,.s k8]])),[]⟩
def i55:IFn:=⟨(.seq (.ops [zV k6 .snil,zV k7 (.b false)]) (.seq (.seq (.ops [zM k8 k1,zB k9 .lss (.s k8) (zI 0),zM k10 k9,zG k11 k10 false (.mov (.s k2)),zG k12 k10 false (.bin .lss .num (.s k11) (zI 0)),zO k13 (.pick (.s k10) (.c (.b true)) (.s k12)),zM k14 k13,zG k15 k14 false (.mov (.s k1)),zG k16 k14 false (.mov (.s k0)),zG k17 k14 false (.nilc (.s k16)),zG k18 k14 false (.fad 0 (.s k17)),zG k19 k14 false (.ld (.s k18)),zG k20 k14 false (.lens (.s k19)),zG k21 k14 false (.bin .gtr .num (.s k15) (.s k20)),zO k22 (.pick (.s k14) (.c (.b true)) (.s k21)),zM k23 k22,zG k24 k23 false (.mov (.s k2)),zG k25 k23 false (.mov (.s k0)),zG k26 k23 false (.nilc (.s k25)),zG k27 k23 false (.fad 0 (.s k26)),zG k28 k23 false (.ld (.s k27)),zG k29 k23 false (.lens (.s k28)),zG k30 k23 false (.mov (.s k1)),zG k31 k23 false (.bin .sub .num (.s k29) (.s k30)),zG k32 k23 false (.bin .gtr .num (.s k24) (.s k31)),zO k33 (.pick (.s k23) (.c (.b true)) (.s k32))]) (.cond k33 (.seq (.ops [zV k6 .snil,zV k7 (.b false)]) .ret) .skip)) (.seq (.ops [zM k34 k0,zO k35 (.nilc (.s k34)),zF k36 0 k35,zL k37 k36,zM k38 k1,zM k39 k1,zM k40 k2,zB k41 .add (.s k39) (.s k40),zO k42 (.slc 1 (.s k37) (some (.s k38)) (some (.s k41)) none),zM k6 k42,zV k7 (.b true)]) .ret))),[.tmp k6,.tmp k7]⟩
def i59:IFn:=⟨(.seq (.ops [zO k5 (.box 42 (.s k2)),zV k6 (.i .i64 0)]) (.seq (.seq (.ops [zM k13 k0,zM k14 k1,zC k15 37 [.s k13,.s k14,zI 64],zO k16 (.not (.s k15))]) (.cond k16 (.seq (.ops [zV k6 (.i .i64 20)]) .ret) .skip)) (.seq (.ops [zO k18 (.ldn 30 (.s k5)),zC k19 87 [.s k18],zM k17 k19,zE k20 k17 0,zE k21 k17 1,zO k7 (.new 74 [.i .u64 0,.i .u64 0,.i .u64 0,.i .u64 0]),zS 4 k7 k20,zM k8 k21]) (.seq (.seq (.ops [zM k22 k8,zO k23 (.not (.s k22))]) (.cond k23 (.seq (.ops [zV k6 (.i .i64 90)]) .ret) .skip)) (.seq (.seq (.ops [zO k24 (.ldn 4 (.s k7)),zV k25 (.i .i64 0)]) (.block 0 (.loop (.seq (.ops [zB k26 .lss (.s k25) (zI 4)]) (.seq (.cond k26 .skip (.exit 0)) (.seq (.block 1 (.seq (.ops [zM k27 k25,zO k28 (.ix 4 1 false (.s k24) (.s k25)),zM k9 k27,zM k10 k28]) (.ops [zM k29 k0,zM k30 k1,zB k31 .add (.s k30) (zI 16),zM k32 k9,zB k33 .add (.s k31) (.s k32),zM k34 k10,zC k35 88 [.s k29,.s k33,.s k34]]))) (.ops [zB k36 .add (.s k25) (zI 1),zM k25 k36]))))))) (.seq (.seq (.ops [zF k37 14 k5,zO k38 (.ldn 16 (.s k37)),zV k39 (.i .i64 0)]) (.block 2 (.loop (.seq (.ops [zB k40 .lss (.s k39) (zI 16)]) (.seq (.cond k40 .skip (.exit 2)) (.seq (.block 3 (.seq (.ops [zM k41 k39,zO k42 (.ix 16 1 false (.s k38) (.s k39)),zM k11 k41,zM k12 k42]) (.ops [zM k43 k0,zM k44 k1,zB k45 .add (.s k44) (zI 32),zM k46 k11,zB k47 .add (.s k45) (.s k46),zM k48 k12,zC k49 88 [.s k43,.s k47,.s k48]]))) (.ops [zB k50 .add (.s k39) (zI 1),zM k39 k50]))))))) (.seq (.ops [zV k6 (.i .i64 0)]) .ret))))))),[.tmp k6]⟩
def dr61:Nat->Option Dr:=fun r=>if Nat.beq r 3 then some (.tail 10 [10,11]) else none
def dr62:Nat->Option Dr:=fun r=>if Nat.beq r 31 then some (.tail 6 [6,7]) else none
def i62:IFn:=⟨(.seq (.ops [zO k4 (.new 42 zT),zV k5 (.i .i64 0)]) (.seq (.ops [zM k16 k0,zM k17 k1,zC k18 91 [.s k16,.s k17,zI 64],zM k6 k18]) (.seq (.seq (.ops [zM k19 k6,zO k20 (.not (.s k19))]) (.cond k20 (.seq (.ops [zO k21 (.agg zT []),zS 30 k4 k21,zV k5 (.i .i64 20)]) .ret) .skip)) (.seq (.ops [zO k7 (.new 74 [.i .u64 0,.i .u64 0,.i .u64 0,.i .u64 0])]) (.seq (.seq (.ops [zV k8 (.i .i64 0)]) (.block 0 (.loop (.seq (.seq (.ops [zM k22 k8,zB k23 .lss (.s k22) (zI 4)]) (.cond k23 .skip (.exit 0))) (.seq (.block 1 (.seq (.ops [zM k27 k0,zM k28 k1,zB k29 .add (.s k28) (zI 16),zM k30 k8,zB k31 .add (.s k29) (.s k30),zC k32 92 [.s k27,.s k31],zM k26 k32,zE k33 k26 0,zE k34 k26 1,zM k9 k33,zM k10 k34]) (.ops [zM k35 k8,zM k36 k9,zO k37 (.ixa 4 1 (.s k7) (.s k35)),zS 1 k37 k36]))) (.ops [zM k24 k8,zB k25 .add (.s k24) (zI 1),zM k8 k25])))))) (.seq (.ops [zO k11 (.new 42 zT)]) (.seq (.seq (.ops [zV k12 (.i .i64 0)]) (.block 2 (.loop (.seq (.seq (.ops [zM k38 k12,zB k39 .lss (.s k38) (zI 16)]) (.cond k39 .skip (.exit 2))) (.seq (.block 3 (.seq (.ops [zM k43 k0,zM k44 k1,zB k45 .add (.s k44) (zI 32),zM k46 k12,zB k47 .add (.s k45) (.s k46),zC k48 92 [.s k43,.s k47],zM k42 k48,zE k49 k42 0,zE k50 k42 1,zM k13 k49,zM k14 k50]) (.ops [zM k51 k12,zM k52 k13,zF k53 14 k11,zO k54 (.ixa 16 1 (.s k53) (.s k51)),zS 1 k54 k52]))) (.ops [zM k40 k12,zB k41 .add (.s k40) (zI 1),zM k12 k41])))))) (.seq (.ops [zO k55 (.ixa 4 1 (.s k7) (zI 0)),zL k56 k55,zB k57 .rem (.s k56) (zU 8),zO k58 (.cv .i64 (.s k57)),zF k59 0 k11,zS 1 k59 k58]) (.seq (.ops [zO k60 (.ixa 4 1 (.s k7) (zI 0)),zL k61 k60,zB k62 .shr (.s k61) (zU 3),zB k63 .rem (.s k62) (zU 256),zO k64 (.cv .i64 (.s k63)),zF k65 1 k11,zS 1 k65 k64]) (.seq (.ops [zO k66 (.ixa 4 1 (.s k7) (zI 0)),zL k67 k66,zB k68 .shr (.s k67) (zU 11),zB k69 .rem (.s k68) (zU 8),zO k70 (.cv .i64 (.s k69)),zF k71 2 k11,zS 1 k71 k70]) (.seq (.ops [zO k72 (.ixa 4 1 (.s k7) (zI 0)),zL k73 k72,zB k74 .shr (.s k73) (zU 14),zB k75 .rem (.s k74) (zU 2),zB k76 .eql (.s k75) (zU 1),zF k77 3 k11,zS 1 k77 k76]) (.seq (.ops [zO k78 (.ixa 4 1 (.s k7) (zI 0)),zL k79 k78,zB k80 .shr (.s k79) (zU 15),zB k81 .rem (.s k80) (zU 2),zB k82 .eql (.s k81) (zU 1),zF k83 8 k11,zS 1 k83 k82]) (.seq (.ops [zO k84 (.ixa 4 1 (.s k7) (zI 0)),zL k85 k84,zB k86 .shr (.s k85) (zU 16),zB k87 .rem (.s k86) (zU 2),zB k88 .eql (.s k87) (zU 1),zF k89 9 k11,zS 1 k89 k88]) (.seq (.ops [zO k90 (.ixa 4 1 (.s k7) (zI 0)),zL k91 k90,zB k92 .shr (.s k91) (zU 17),zB k93 .rem (.s k92) (zU 4),zO k94 (.cv .i64 (.s k93)),zF k95 12 k11,zS 1 k95 k94]) (.seq (.ops [zO k96 (.ixa 4 1 (.s k7) (zI 1)),zL k97 k96,zB k98 .rem (.s k97) (zU 65536),zO k99 (.cv .i64 (.s k98)),zF k100 4 k11,zS 1 k100 k99]) (.seq (.ops [zO k101 (.ixa 4 1 (.s k7) (zI 1)),zL k102 k101,zB k103 .shr (.s k102) (zU 16),zB k104 .rem (.s k103) (zU 65536),zO k105 (.cv .i64 (.s k104)),zF k106 5 k11,zS 1 k106 k105]) (.seq (.ops [zO k107 (.ixa 4 1 (.s k7) (zI 1)),zL k108 k107,zB k109 .shr (.s k108) (zU 32),zB k110 .rem (.s k109) (zU 65536),zO k111 (.cv .i64 (.s k110)),zF k112 6 k11,zS 1 k112 k111]) (.seq (.ops [zO k113 (.ixa 4 1 (.s k7) (zI 1)),zL k114 k113,zB k115 .shr (.s k114) (zU 48),zO k116 (.cv .i64 (.s k115)),zF k117 10 k11,zS 1 k117 k116]) (.seq (.ops [zO k118 (.ixa 4 1 (.s k7) (zI 2)),zL k119 k118,zB k120 .rem (.s k119) (zU 268435456),zO k121 (.cv .i64 (.s k120)),zF k122 7 k11,zS 1 k122 k121]) (.seq (.ops [zO k123 (.ixa 4 1 (.s k7) (zI 3)),zL k124 k123,zB k125 .rem (.s k124) (zU 4294967296),zO k126 (.cv .i64 (.s k125)),zF k127 11 k11,zS 1 k127 k126]) (.seq (.ops [zO k128 (.ixa 4 1 (.s k7) (zI 3)),zL k129 k128,zB k130 .shr (.s k129) (zU 32),zO k131 (.cv .i64 (.s k130)),zF k132 13 k11,zS 1 k132 k131]) (.seq (.ops [zO k133 (.ldn 30 (.s k11)),zC k134 93 [.s k133],zM k15 k134]) (.seq (.seq (.seq (.qops [zM k135 k15,zO k136 (.not (.s k135)),zM k137 k136,zG k138 k137 false (.ldn 30 (.s k11)),.call (some k139) (some (k137,false)) (.c (.fn 94 [] [])) [.s k138],zG k140 k137 false (.ldn 4 (.s k7))]) (.ops [zG k141 k137 false (.bin .neq (.agg [.int .u64,.int .u64,.int .u64,.int .u64]) (.s k139) (.s k140)),zO k142 (.pick (.s k137) (.c (.b true)) (.s k141))])) (.cond k142 (.seq (.ops [zO k143 (.agg zT []),zS 30 k4 k143,zV k5 (.i .i64 90)]) .ret) .skip)) (.seq (.ops [zO k144 (.ldn 30 (.s k11)),zS 30 k4 k144,zV k5 (.i .i64 0)]) .ret)))))))))))))))))))))))),[.cn 30 k4,.tmp k5]⟩
def i65:IFn:=⟨(.seq (.ops [zV k2 (.i .i64 0)]) (.seq (.ops [zM k3 k0,zC k4 95 [.s k3],zM k2 k4]) .ret)),[.tmp k2]⟩
def i66:IFn:=⟨(.seq (.ops [zO k3 (.box 3 (.s k1)),zV k4 (.i .i64 0)]) (.seq (.ops [zM k5 k0,zL k6 k3,zO k7 (.mkf 97 [] [.s k3]),zC k8 96 [.s k5,.s k6,.s k7],zM k4 k8]) .ret)),[.tmp k4]⟩
def i67:IFn:=⟨(.seq (.ops [zV k2 (.i .i64 0)]) (.seq (.ops [zM k3 k0,zC k4 98 [.s k3,zI 1,zI 1024,zI 64],zM k2 k4]) .ret)),[.tmp k2]⟩
def i72:IFn:=⟨(.seq (.ops [zO k3 (.box 3 (.s k1)),zV k4 (.i .i64 0)]) (.seq (.ops [zM k5 k0,zL k6 k3,zO k7 (.mkf 109 [] [.s k3]),zC k8 96 [.s k5,.s k6,.s k7],zM k4 k8]) .ret)),[.tmp k4]⟩
def i73:IFn:=⟨(.ops [zM k4 k0,zM k5 k1,zC k6 110 [.s k4,.s k5]]),[]⟩
end Go.Ev.X
end
