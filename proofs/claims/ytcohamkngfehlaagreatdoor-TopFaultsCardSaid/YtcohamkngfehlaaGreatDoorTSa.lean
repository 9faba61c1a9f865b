import Derived.Test.YtcohamkngfehlaaGreatDoorAX
import Derived.Test.YtcohamkngfehlaaGreatDoorEvTd
import Derived.Test.YtcohamkngfehlaaGreatDoorE5
import Derived.Test.YtcohamkngfehlaaGreatDoorE4
set_option linter.unusedSimpArgs false
set_option linter.unusedVariables false
set_option maxRecDepth 100000
noncomputable section
namespace Go.Ev.X
open Go Go.Ev Go.Proofs
def q1:P:=.h
def q2:P:=.o q1
def q3:P:=.i q1
def q4:P:=.o q2
def q5:P:=.i q2
def q6:P:=.o q3
def q8:P:=.o q4
def q9:P:=.i q4
def q11:P:=.i q5
def q12:P:=.o q6
def q17:P:=.i q8
def q19:P:=.i q9
def q22:P:=.o q11
def q23:P:=.i q11
def q24:P:=.o q12
def q34:P:=.o q17
def q35:P:=.i q17
def q39:P:=.i q19
def q45:P:=.i q22
def q46:P:=.o q23
def q49:P:=.i q24
def q69:P:=.i q34
def q70:P:=.o q35
def q79:P:=.i q39
def q98:P:=.o q49
def q138:P:=.o q69
def q139:P:=.i q69
def q140:P:=.o q70
def q159:P:=.i q79
def q196:P:=.o q98
def q276:P:=.o q138
def q277:P:=.i q138
def q279:P:=.i q139
def q280:P:=.o q140
def q318:P:=.o q159
def q392:P:=.o q196
def q637:P:=.i q318
def u0:Nat × V:=(1096,(.i .u64 0))
def u1:Nat × V:=(1098,(.i .u64 0))
def u2:Nat × V:=(1097,(.i .u64 0))
def u3:Nat × V:=(1099,(.i .u64 0))
def hat0:Tr V:=(.node (.node (.node (.node (.node (.node (.node (.node (.node (.node (.node .nil (.node (.node (.leaf (.i .u64 7696585607170)) .nil) .nil)) .nil) (.node (.node .nil (.node (.node (.leaf (.i .u64 285217026)) .nil) .nil)) .nil)) .nil) (.node (.node (.node (.node .nil (.node (.node (.leaf (.i .u64 7696585608194)) .nil) .nil)) .nil) .nil) .nil)) (.node (.node (.node (.node (.node (.node (.node (.leaf (.i .u64 16387)) .nil) .nil) (.node (.node (.leaf (.i .u64 0)) .nil) .nil)) .nil) .nil) .nil) (.node (.node (.node (.node .nil (.node (.node (.leaf (.i .u64 1)) .nil) .nil)) .nil) .nil) .nil))) (.node (.node (.node (.node (.node (.node .nil (.node (.node (.leaf (.i .u64 10313)) .nil) .nil)) .nil) .nil) .nil) (.node (.node (.node (.node .nil (.node (.node (.leaf (.i .u64 10315)) .nil) .nil)) .nil) .nil) .nil)) .nil)) (.node (.node (.node (.node (.node (.node (.node (.node (.node (.leaf (.i .u64 0)) .nil) .nil) .nil) .nil) .nil) (.node (.node (.node .nil (.node (.node (.leaf (.i .u64 234901637)) .nil) .nil)) .nil) .nil)) (.node .nil (.node (.node (.node .nil (.node (.node (.leaf (.i .u64 234901637)) .nil) .nil)) .nil) .nil))) (.node (.node (.node (.node (.node .nil (.node (.node (.leaf (.i .u64 0)) .nil) .nil)) .nil) .nil) .nil) (.node (.node (.node (.node .nil (.node (.node (.leaf (.i .u64 0)) .nil) .nil)) .nil) .nil) .nil))) .nil)) (.node (.node (.node (.node (.node (.node (.node (.node (.node (.node (.leaf (.i .u64 0)) .nil) .nil) .nil) .nil) .nil) (.node (.node (.node .nil (.node (.node (.leaf (.i .u64 234901508)) .nil) .nil)) .nil) .nil)) (.node .nil (.node (.node (.node .nil (.node (.node (.leaf (.i .u64 234901508)) .nil) .nil)) .nil) .nil))) (.node (.node (.node (.node (.node (.node (.node (.leaf (.i .u64 17411)) .nil) .nil) (.node (.node (.leaf (.i .u64 0)) .nil) .nil)) .nil) .nil) .nil) (.node (.node (.node (.node .nil (.node (.node (.leaf (.i .u64 0)) .nil) .nil)) .nil) .nil) .nil))) .nil) (.node (.node .nil (.node (.node (.node (.node (.node .nil (.node (.node (.leaf (.i .u64 0)) .nil) .nil)) .nil) .nil) .nil) (.node (.node (.node (.node .nil (.node (.node (.leaf (.i .u64 0)) .nil) .nil)) .nil) .nil) .nil))) (.node .nil (.node (.node (.node (.node (.node (.node (.node (.leaf (.i .u64 34359759111)) .nil) .nil) .nil) .nil) .nil) .nil) .nil))))) (.node (.node (.node (.node (.node (.node (.node (.node (.node (.node (.node (.leaf (.i .u64 1160)) .nil) .nil) (.node (.node (.leaf (.i .u64 2360384)) .nil) .nil)) .nil) .nil) .nil) (.node (.node (.node (.node .nil (.node (.node (.leaf (.i .u64 67108924)) .nil) .nil)) .nil) .nil) .nil)) (.node (.node (.node (.node (.node (.node (.node (.leaf (.i .u64 36)) .nil) .nil) (.node (.node (.leaf (.i .u64 0)) .nil) .nil)) .nil) .nil) .nil) (.node (.node (.node (.node .nil (.node (.node (.leaf (.si .u64 (.v 9))) .nil) .nil)) .nil) .nil) .nil))) (.node (.node (.node (.node (.node (.node .nil (.node (.node (.leaf (.i .u64 0)) .nil) .nil)) .nil) .nil) .nil) (.node (.node (.node (.node .nil (.node (.node (.leaf (.i .u64 0)) .nil) .nil)) .nil) .nil) .nil)) .nil)) (.node (.node (.node (.node .nil (.node (.node (.node .nil (.node (.node (.leaf (.i .u64 80216064)) .nil) .nil)) .nil) .nil)) (.node .nil (.node (.node (.node .nil (.node (.node (.leaf (.i .u64 4370728072)) .nil) .nil)) .nil) .nil))) (.node (.node (.node (.node (.node .nil (.node (.node (.leaf (.i .u64 0)) .nil) .nil)) .nil) .nil) .nil) (.node (.node (.node (.node .nil (.node (.node (.leaf (.i .u64 0)) .nil) .nil)) .nil) .nil) .nil))) .nil)) (.node (.node (.node (.node (.node .nil (.node (.node (.node .nil (.node (.node (.leaf (.i .u64 79955144)) .nil) .nil)) .nil) .nil)) (.node .nil (.node (.node (.node .nil (.node (.node (.leaf (.i .u64 4298900612)) .nil) .nil)) .nil) .nil))) (.node (.node (.node (.node (.node (.node (.node (.leaf (.i .u64 2098176)) .nil) .nil) (.node (.node (.leaf (.i .u64 0)) .nil) .nil)) .nil) .nil) .nil) (.node (.node (.node (.node .nil (.node (.node (.leaf (.i .u64 0)) .nil) .nil)) .nil) .nil) .nil))) .nil) (.node (.node .nil (.node (.node (.node (.node (.node .nil (.node (.node (.leaf (.i .u64 0)) .nil) .nil)) .nil) .nil) .nil) (.node (.node (.node (.node .nil (.node (.node (.leaf (.i .u64 0)) .nil) .nil)) .nil) .nil) .nil))) (.node .nil (.node (.node (.node (.node (.node (.node (.node (.leaf (.i .u64 71304388)) .nil) .nil) .nil) .nil) .nil) .nil) .nil)))))) (.node (.node (.node (.node (.node (.node (.node (.node (.node (.node (.node (.node (.leaf (.i .u64 1024)) .nil) .nil) (.node (.node (.leaf (.i .u64 0)) .nil) .nil)) .nil) .nil) .nil) (.node (.node (.node (.node .nil (.node (.node (.leaf (.i .u64 0)) .nil) .nil)) .nil) .nil) .nil)) (.node (.node (.node (.node (.node (.node (.node (.leaf (.i .u64 0)) .nil) .nil) (.node (.node (.leaf (.i .u64 0)) .nil) .nil)) .nil) .nil) .nil) (.node (.node (.node (.node .nil (.node (.node (.leaf (.i .u64 0)) .nil) .nil)) .nil) .nil) .nil))) (.node (.node (.node (.node (.node (.node (.node (.node (.leaf (.i .u64 1296)) .nil) .nil) (.node (.node (.leaf (.i .u64 0)) .nil) .nil)) .nil) .nil) .nil) (.node (.node (.node (.node .nil (.node (.node (.leaf (.i .u64 5497558138880)) .nil) .nil)) .nil) .nil) .nil)) .nil)) (.node (.node (.node (.node (.node .nil (.node (.node (.node (.node (.leaf (.i .u64 0)) .nil) .nil) .nil) .nil)) (.node (.node (.node .nil (.node (.node (.leaf (.i .u64 1)) .nil) .nil)) .nil) .nil)) (.node .nil (.node (.node (.node .nil (.node (.node (.leaf (.i .u64 2)) .nil) .nil)) .nil) .nil))) (.node (.node (.node (.node (.node .nil (.node (.node (.leaf (.i .u64 0)) .nil) .nil)) .nil) .nil) .nil) (.node (.node (.node (.node .nil (.node (.node (.leaf (.i .u64 0)) .nil) .nil)) .nil) .nil) .nil))) .nil)) (.node (.node (.node (.node (.node .nil (.node (.node (.node .nil (.node (.node (.leaf (.i .u64 5)) .nil) .nil)) .nil) .nil)) (.node .nil (.node (.node (.node .nil (.node (.node (.leaf (.i .u64 6)) .nil) .nil)) .nil) .nil))) (.node (.node (.node (.node (.node (.node (.node (.leaf (.i .u64 0)) .nil) .nil) (.node (.node (.leaf (.i .u64 0)) .nil) .nil)) .nil) .nil) .nil) (.node (.node (.node (.node .nil (.node (.node (.leaf (.i .u64 0)) .nil) .nil)) .nil) .nil) .nil))) .nil) (.node (.node .nil (.node (.node (.node (.node (.node .nil (.node (.node (.leaf (.i .u64 0)) .nil) .nil)) .nil) .nil) .nil) (.node (.node (.node (.node .nil (.node (.node (.leaf (.i .u64 0)) .nil) .nil)) .nil) .nil) .nil))) (.node .nil (.node (.node (.node (.node (.node (.node (.node (.leaf (.i .u64 0)) .nil) .nil) .nil) .nil) .nil) .nil) .nil))))) (.node (.node (.node (.node (.node (.node (.node (.node (.node .nil (.node (.node (.leaf (.i .u64 0)) .nil) .nil)) .nil) .nil) .nil) (.node (.node (.node (.node .nil (.node (.node (.leaf (.i .u64 0)) .nil) .nil)) .nil) .nil) .nil)) (.node (.node (.node (.node (.node (.node (.node (.leaf (.i .u64 0)) .nil) .nil) (.node (.node (.leaf (.i .u64 0)) .nil) .nil)) .nil) .nil) .nil) (.node (.node (.node (.node .nil (.node (.node (.leaf (.i .u64 0)) .nil) .nil)) .nil) .nil) .nil))) (.node (.node (.node (.node (.node (.node .nil (.node (.node (.leaf (.i .u64 1)) .nil) .nil)) .nil) .nil) .nil) (.node (.node (.node (.node .nil (.node (.node (.leaf (.i .u64 1)) .nil) .nil)) .nil) .nil) .nil)) .nil)) (.node (.node (.node (.node .nil (.node (.node (.node .nil (.node (.node (.leaf (.i .u64 0)) .nil) .nil)) .nil) .nil)) (.node .nil (.node (.node (.node .nil (.node (.node (.leaf (.i .u64 0)) .nil) .nil)) .nil) .nil))) (.node (.node (.node (.node (.node .nil (.node (.node (.leaf (.i .u64 0)) .nil) .nil)) .nil) .nil) .nil) (.node (.node (.node (.node .nil (.node (.node (.leaf (.i .u64 0)) .nil) .nil)) .nil) .nil) .nil))) .nil)) (.node (.node (.node (.node (.node .nil (.node (.node (.node .nil (.node (.node (.leaf (.i .u64 0)) .nil) .nil)) .nil) .nil)) (.node .nil (.node (.node (.node .nil (.node (.node (.leaf (.i .u64 0)) .nil) .nil)) .nil) .nil))) (.node (.node (.node (.node (.node (.node (.node (.leaf (.i .u64 0)) .nil) .nil) (.node (.node (.leaf (.i .u64 0)) .nil) .nil)) .nil) .nil) .nil) (.node (.node (.node (.node .nil (.node (.node (.leaf (.i .u64 0)) .nil) .nil)) .nil) .nil) .nil))) .nil) (.node (.node .nil (.node (.node (.node (.node (.node .nil (.node (.node (.leaf (.i .u64 0)) .nil) .nil)) .nil) .nil) .nil) (.node (.node (.node (.node .nil (.node (.node (.leaf (.i .u64 0)) .nil) .nil)) .nil) .nil) .nil))) (.node .nil (.node (.node (.node (.node (.node (.node (.node (.leaf (.i .u64 0)) .nil) .nil) .nil) .nil) .nil) .nil) .nil)))))))
def hab:List (P × OS):=[(q45,.o (.arr 41 4096 13 (.i .u64 0) hat0)),(q46,.o (.cells 133 [(.sl (q45) 0 4096 4096),(.si .i64 (.v 5))])),(q276,.o (.cells 126 [(.i .u16 0),(.i .u16 65535),(.i .u32 0)])),(q277,.o (.cells 131 [(.i .i64 0),(.i .i64 0),(.i .i64 0),(.i .i64 0),(.i .i64 0),(.i .i64 0),(.i .i64 0),(.i .i64 0),(.i .i64 0),(.i .i64 0),(.i .i64 0),(.i .i64 0),(.i .i64 0),(.i .i64 0),(.i .i64 0),(.i .i64 0),(.i .i64 0),(.i .i64 0),(.i .i64 0),(.i .i64 0),(.i .i64 0),(.i .i64 0),(.i .i64 0),(.i .i64 0),(.i .i64 0),(.i .i64 0),(.i .i64 0),(.i .i64 0),(.i .i64 0),(.i .i64 0),(.i .i64 0),(.i .i64 0)])),(q279,.o (.cells 81 [(.ptr (q46) 0),(.ptr (q276) 0),(.ptr (q277) 0),(.i .i64 0)])),(q280,.o (.cells 39 [(.ptr (q46) 0),(.ptr (q279) 0)]))]
def ha0:HS:=⟨q392,q3,hab ++ [(q1,.o (.row 0 1 (.v 1) (.v 2) [(.si .i64 (.v 3))])),(q2,.o (.row 1 1 (.v 8) (.v 2) [(.si .i64 (.v 4))]))]⟩
def ha1:HS:=⟨q392,q3,hab ++ [(q1,.o (.row 0 1 (.v 1) (.v 2) [])),(q2,.o (.row 1 1 (.v 8) (.v 2) []))]⟩
def ha2:HS:=⟨q637,q3,hab ++ [(q45,.u [u0,u1,u2,u3]),(q1,.o (.row 0 1 (.v 1) (.v 2) [(.si .i64 (.v 3))])),(q2,.o (.row 1 1 (.v 8) (.v 2) [(.si .i64 (.v 4))]))]⟩
def ha3:HS:=⟨q637,q3,hab ++ [(q45,.u [u0,u1,u2,u3]),(q1,.o (.row 0 1 (.v 1) (.v 2) [])),(q2,.o (.row 1 1 (.v 8) (.v 2) []))]⟩
def fr0:List (Ky × V):=[(k0,(.fs (q1) 0)),(k1,(.fs (q2) 1)),(k5,(.b true)),(k6,(.ptr (q280) 0)),(k9,(.si .i64 (.v 2)))]
def fr1:List (Ky × V):=[(k0,(.fs (q1) 0)),(k1,(.fs (q2) 1)),(k5,(.b true)),(k6,(.ptr (q280) 0)),(k9,(.si .i64 (.v 2)))]
def st (j:Nat):GS:=(nth [⟨fr0,ha0.mk'⟩,⟨fr0,ha1.mk'⟩,⟨fr1,ha2.mk'⟩,⟨fr1,ha3.mk'⟩] j).getD ⟨[],⟨.h,.h,.e⟩⟩
def tN (j:Nat) (b:Bool):Nat:=bc b ((nth [1,1] j).getD 0) ((nth [1,1] j).getD 0)
def sgN (j:Nat) (b:Bool):List (Nat × SE):=bc b ((nth [[(1,(.v 1)),(2,(.op .add .i64 (.v 2) (.lit 1))),(5,(.op .add .i64 (.v 5) (.lit 929))),(8,(.v 8)),(9,(.cv .u64 (.op .add .i64 (.v 6) (.lit 20))))],
 [(1,(.v 1)),(2,(.op .add .i64 (.v 2) (.lit 1))),(5,(.op .add .i64 (.v 5) (.lit 929))),(8,(.v 8)),(9,(.cv .u64 (.op .add .i64 (.v 6) (.lit 20))))]] j).getD []) ((nth [[(1,(.v 1)),(2,(.op .add .i64 (.v 2) (.lit 1))),(5,(.op .add .i64 (.v 5) (.lit 933))),(8,(.v 8)),(9,(.cv .u64 (.v 6)))],
 [(1,(.v 1)),(2,(.op .add .i64 (.v 2) (.lit 1))),(5,(.op .add .i64 (.v 5) (.lit 933))),(8,(.v 8)),(9,(.cv .u64 (.v 6)))]] j).getD [])
def sg0:List (Nat × SE):=[(1,(.v 1)),(2,(.lit 0)),(5,(.lit 998)),(8,(.v 8)),(9,(.lit 0))]
def qC:CutX:=⟨(.seqR (.ops [.op (some k4) none (.mov (.c (.b false)))]) (.seqR (.ops [.call (some k18) none (.c (.fn 9 [] [])) [],.op (some k5) none (.mov (.s k18))]) (.seqR (.ops [.call (some k19) none (.c (.fn 16 [] [])) [],.call (some k20) none (.c (.fn 11 [] [])) [(.s k19)],.op (some k6) none (.mov (.s k20))]) (.seqR (.seq (.ops [.op (some k21) none (.mov (.s k6)),.op (some k22) none (.bin .eql .ptr (.s k21) (.c .nil))]) (.cond k22 (.seq (.ops [.op (some k4) none (.mov (.c (.b false)))]) .ret) .skip)) (.seqR (.ops [.op (some k23) none (.mov (.s k6)),.call (some k24) none (.c (.fn 17 [] [])) [(.s k23),(.c (.i .i64 8)),(.c .snil)],.op (some k7) none (.mov (.s k24))]) (.seqR (.ops [.op (some k25) none (.mov (.s k6)),.op (some k26) none (.bsl 41 1 [(.i .u64 0)] [(0,1,(.c (.i .u64 1)))]),.call (some k27) none (.c (.fn 17 [] [])) [(.s k25),(.c (.i .i64 4)),(.s k26)],.op (some k8) none (.mov (.s k27))]) (.seqR (.seq (.ops [.op (some k28) none (.mov (.s k7)),.op (some k29) none (.bin .neq .num (.s k28) (.c (.i .i64 0))),.op (some k30) none (.mov (.s k29)),.op (some k31) (some (k30,false)) (.mov (.s k8)),.op (some k32) (some (k30,false)) (.bin .neq .num (.s k31) (.c (.i .i64 0))),.op (some k33) none (.pick (.s k30) (.c (.b true)) (.s k32))]) (.cond k33 (.seq (.ops [.op (some k4) none (.mov (.c (.b false)))]) .ret) .skip)) (.seqL (.seqR (.ops [.op (some k9) none (.mov (.c (.i .i64 0)))]) (.block 0 .hole)) (.seq (.ops [.op (some k133) none (.mov (.s k5)),.op (some k4) none (.mov (.s k133))]) .ret))))))))),(.seq (.seq (.ops [.op (some k34) none (.mov (.s k9)),.op (some k35) none (.mov (.s k0)),.op (some k36) none (.lens (.s k35)),.op (some k37) none (.bin .lss .num (.s k34) (.s k36)),.op (some k38) none (.mov (.s k37)),.op (some k39) (some (k38,true)) (.mov (.s k9)),.op (some k40) (some (k38,true)) (.mov (.s k1)),.op (some k41) (some (k38,true)) (.lens (.s k40)),.op (some k42) (some (k38,true)) (.bin .lss .num (.s k39) (.s k41)),.op (some k43) none (.pick (.s k38) (.s k42) (.c (.b false))),.op (some k44) none (.mov (.s k43)),.op (some k45) (some (k44,true)) (.mov (.s k9)),.op (some k46) (some (k44,true)) (.bin .lss .num (.s k45) (.c (.i .i64 40))),.op (some k47) none (.pick (.s k44) (.s k46) (.c (.b false)))]) (.cond k47 .skip (.exit 0))) (.seq (.block 1 (.seq (.ops [.op (some k50) none (.mov (.s k6)),.op (some k51) none (.nilc (.s k50)),.op (some k52) none (.fad 0 (.s k51)),.op (some k53) none (.ld (.s k52)),.call (some k54) none (.c (.fn 14 [] [])) [(.s k53)],.op (some k10) none (.mov (.s k54))]) (.seq (.seq (.ops [.op (some k55) none (.mov (.s k10)),.op (some k56) none (.bin .neq .num (.s k55) (.c (.i .i64 1024)))]) (.cond k56 (.seq (.ops [.op (some k4) none (.mov (.c (.b false)))]) .ret) .skip)) (.seq (.ops [.op (some k57) none (.mov (.s k1)),.op (some k58) none (.mov (.s k9)),.op (some k59) none (.ixs 1 (.s k57) (.s k58)),.op (some k60) none (.ld (.s k59)),.call (some k61) none (.c (.fn 10 [] [])) [(.s k60),(.c (.i .i64 65536))],.op (some k11) none (.mov (.s k61))]) (.seq (.ops [.op (some k12) none (.mov (.c (.i .u64 2)))]) (.seq (.ops [.op (some k13) none (.mov (.c (.i .i64 0)))]) (.seq (.seq (.ops [.op (some k62) none (.mov (.s k0)),.op (some k63) none (.mov (.s k9)),.op (some k64) none (.ixs 1 (.s k62) (.s k63)),.op (some k65) none (.ld (.s k64)),.call (some k66) none (.c (.fn 10 [] [])) [(.s k65),(.c (.i .i64 2))],.op (some k67) none (.bin .eql .num (.s k66) (.c (.i .i64 0)))]) (.cond k67 (.seq (.ops [.op (some k12) none (.mov (.c (.i .u64 3)))]) (.seq (.ops [.op (some k68) none (.mov (.s k11)),.op (some k69) none (.bin .add .num (.s k68) (.c (.i .i64 20))),.op (some k11) none (.mov (.s k69))]) (.ops [.op (some k70) none (.mov (.s k6)),.op (some k71) none (.mov (.s k11)),.call (some k72) none (.c (.fn 17 [] [])) [(.s k70),(.s k71),(.c .snil)],.op (some k13) none (.mov (.s k72))]))) (.ops [.op (some k73) none (.mov (.s k6)),.op (some k74) none (.nilc (.s k73)),.op (some k75) none (.fad 1 (.s k74)),.op (some k76) none (.ld (.s k75)),.op (some k77) none (.mov (.s k11)),.op (some k78) none (.agg [(.i .i64 0),(.i .i64 0),(.i .i64 0),(.i .u64 0)] [(0,1,(.c (.i .i64 2))),(1,1,(.s k77)),(2,1,(.c (.i .i64 1)))]),.call (some k79) none (.c (.fn 13 [] [])) [(.s k76),(.s k78)],.op (some k13) none (.mov (.s k79))]))) (.seq (.ops [.op (some k81) none (.mov (.s k6)),.op (some k82) none (.nilc (.s k81)),.op (some k83) none (.fad 0 (.s k82)),.op (some k84) none (.ld (.s k83)),.call (some k85) none (.c (.fn 19 [] [])) [(.s k84),(.c (.i .i64 1088)),(.c (.i .i64 1))],.op (some k80) none (.mov (.s k85)),.op (some k86) none (.ext (.s k80) 0),.op (some k87) none (.ext (.s k80) 1),.op (some k14) none (.mov (.s k86)),.op (some k15) none (.mov (.s k87))]) (.seq (.ops [.op (some k89) none (.mov (.s k6)),.op (some k90) none (.nilc (.s k89)),.op (some k91) none (.fad 0 (.s k90)),.op (some k92) none (.ld (.s k91)),.call (some k93) none (.c (.fn 19 [] [])) [(.s k92),(.c (.i .i64 1088)),(.c (.i .i64 2))],.op (some k88) none (.mov (.s k93)),.op (some k94) none (.ext (.s k88) 0),.op (some k95) none (.ext (.s k88) 1),.op (some k16) none (.mov (.s k94)),.op (some k17) none (.mov (.s k95))]) (.seq (.ops [.op (some k96) none (.mov (.s k6)),.op (some k97) none (.nilc (.s k96)),.op (some k98) none (.fad 0 (.s k97)),.op (some k99) none (.ld (.s k98)),.call (some k100) none (.c (.fn 14 [] [])) [(.s k99)],.op (some k10) none (.mov (.s k100))]) (.seq (.seq (.ops [.op (some k101) none (.mov (.s k13)),.op (some k102) none (.bin .neq .num (.s k101) (.c (.i .i64 50))),.op (some k103) none (.mov (.s k102)),.op (some k104) (some (k103,false)) (.mov (.s k15)),.op (some zfj) (some (k103,false)) (.bin .neq .num (.s k104) (.c (.i .i64 0))),.op (some k106) none (.pick (.s k103) (.c (.b true)) (.s zfj)),.op (some k107) none (.mov (.s k106)),.op (some k108) (some (k107,false)) (.mov (.s k17)),.op (some k109) (some (k107,false)) (.bin .neq .num (.s k108) (.c (.i .i64 0))),.op (some k110) none (.pick (.s k107) (.c (.b true)) (.s k109)),.op (some zfi) none (.mov (.s k110)),.op (some k112) (some (zfi,false)) (.mov (.s k14)),.op (some k113) (some (zfi,false)) (.mov (.s k12)),.op (some k114) (some (zfi,false)) (.bin .shl .num (.s k113) (.c (.i .u64 8))),.op (some k115) (some (zfi,false)) (.bin .or .num (.s k114) (.c (.i .u64 1))),.op (some k116) (some (zfi,false)) (.bin .neq .num (.s k112) (.s k115)),.op (some k117) none (.pick (.s zfi) (.c (.b true)) (.s k116)),.op (some zfM) none (.mov (.s k117)),.op (some k119) (some (zfM,false)) (.mov (.s k16)),.op (some k120) (some (zfM,false)) (.mov (.s k11)),.op (some k121) (some (zfM,false)) (.cv .u64 (.s k120)),.op (some k122) (some (zfM,false)) (.bin .neq .num (.s k119) (.s k121)),.op (some k123) none (.pick (.s zfM) (.c (.b true)) (.s k122)),.op (some k124) none (.mov (.s k123)),.op (some k125) (some (k124,false)) (.mov (.s k10)),.op (some k126) (some (k124,false)) (.bin .neq .num (.s k125) (.c (.i .i64 1088))),.op (some k127) none (.pick (.s k124) (.c (.b true)) (.s k126))]) (.cond k127 (.seq (.ops [.op (some k4) none (.mov (.c (.b false)))]) .ret) .skip)) (.seq (.ops [.op (some k128) none (.mov (.s k6)),.op (some k129) none (.bsl 41 2 [(.i .u64 0),(.i .u64 0)] [(0,1,(.c (.i .u64 1))),(1,1,(.c (.i .u64 0)))]),.call (some k130) none (.c (.fn 17 [] [])) [(.s k128),(.c (.i .i64 7)),(.s k129)],.op (some k13) none (.mov (.s k130))]) (.seq (.ops [.op (some k131) none (.mov (.s k13)),.op (some k132) none (.bin .neq .num (.s k131) (.c (.i .i64 0)))]) (.cond k132 (.seq (.ops [.op (some k4) none (.mov (.c (.b false)))]) .ret) .skip)))))))))))))) (.ops [.op (some k48) none (.mov (.s k9)),.op (some k49) none (.bin .add .num (.s k48) (.c (.i .i64 1))),.op (some k9) none (.mov (.s k49))]))),[.tmp k4]⟩
def hR:H:=⟨.o .h,.o .h,(PT.e:PT O).set .h (.row 0 1 (.v 1) (.v 2) [])⟩
def hR2:H:=⟨.i .h,.i .h,((PT.e:PT O).set .h (.row 0 1 (.v 1) (.v 2) [])).set (.o .h) (.row 1 1 (.v 8) (.v 2) [])⟩
theorem qcut:cutX (zi Tryz.prog) drN Tryz.f6=some qC:=by kernel_rfl
def cpF:zw:=zjC 10 [.si .i64 (.v 3),.i .i64 2] (.si .i64 (.v 7)) (zjC 10 [.si .i64 (.v 4),.i .i64 65536] (.si .i64 (.v 6)) zab)
def nF (b:Bool):SE:=bc b (.op .add .i64 (.v 6) (.lit 20)) (.v 6)
def lowF (e:SE):SE:=.cv .i64 (.op .and .u64 (.cv .u64 e) (.lit 4294967295))
def shF (e:SE):SE:=.op .shl .u64 (.cv .u64 e) (.lit 32)
def orF (e:SE):SE:=.op .or .u64 (.lit 1) (shF e)
def upkF (e:SE):SE:=.cv .i64 (.op .shr .u64 (.op .and .u64 (orF e) (.lit 18446744069414584320)) (.lit 32))
def comF (e:SE):List (SB × Bool):=[(.not (.cmp .neq (upkF e) e),true),(.cmp .lss e (.lit 0),false),(.cmp .neq (.op .shr .u64 (shF e) (.lit 32)) (.cv .u64 e),false),
 (.cmp .eql (.op .andNot .u64 (shF e) (.lit 18446744069414584320)) (.lit 0),true),(.cmp .eql (.op .shr .u64 (orF e) (.lit 64)) (.lit 0),true),(.cmp .eql (.op .and .u64 (orF e) (.lit 4294967295)) (.lit 1),true)]
def fA:List (SB × Bool):=comF (nF false) ++ [(.cmp .geq (.v 6) (.lit 0),true),(.cmp .lss (.v 6) (.lit 65536),true)]
def fC:List (SB × Bool):=comF (nF true) ++ [(.not (.cmp .neq (lowF (nF true)) (nF true)),true),(.cmp .eql (nF true) (.lit 8),false),(.cmp .eql (nF true) (.lit 1),false),(.cmp .eql (nF true) (.lit 2),false),(.cmp .eql (nF true) (.lit 3),false),(.cmp .eql (nF true) (.lit 4),false),(.cmp .eql (nF true) (.lit 5),false),(.cmp .eql (nF true) (.lit 6),false),(.cmp .eql (nF true) (.lit 7),false)]
def fxB (b:Bool):List (SB × Bool):=bc b fC fA
section
variable {E:Env}
theorem zmh (a:Nat) (h:a<4294967296):Nat.land (a*4294967296) 18446744069414584320=a*4294967296:=by
 have h1:a*4294967296=a <<< 32:=by rw[Nat.shiftLeft_eq]
 have h2:(18446744069414584320:Nat)=4294967295 <<< 32:=by rw[Nat.shiftLeft_eq]
 rw[h1,h2]
 have h3:=(Nat.shiftLeft_and_distrib (a:=a) (b:=4294967295) (i:=32)).symm
 refine Eq.trans h3 ?_
 have h4:a &&& 4294967295=a:=by
  rw[show (4294967295:Nat)=2 ^ 32 - 1 from rfl,Nat.and_two_pow_sub_one_eq_mod]
  exact Nat.mod_eq_of_lt h
 rw[h4]
theorem zfB (x y:Nat) (hx:x<18446744073709551616) (hy:y<18446744073709551616):arS .andNot .u64 (x:Int) (y:Int)=((Nat.xor x (Nat.land x y):Nat):Int):=by
 have h1:Nat.blt x (ye .u64)=true:=by simp[ye];omega
 have h2:Nat.blt y (ye .u64)=true:=by simp[ye];omega
 show zdj .u64 (fun a b=>Nat.xor a (Nat.land a b)) (fun a b=>a &&& ~~~b) (.ofNat x) (.ofNat y)=_
 show bc (Nat.blt x (ye .u64)) (bc (Nat.blt y (ye .u64)) (Int.ofNat (Nat.xor x (Nat.land x y))) _) _=_
 rw[h1,h2];rfl
theorem zme (n:Nat) (h:n<4294967296):Nat.lor 1 (n*4294967296)=n*4294967296+1:=by
 have a:=zlI (n*4294967296) 1 (by omega) (by omega)
 have b:=or_add (x:=((n*4294967296:Nat):Int)) (y:=1) 32 n (by simp) (by omega) (by omega) (by omega) (by omega) (by omega)
 have c:(((n*4294967296:Nat):Int))+1=((Nat.lor (n*4294967296) 1:Nat):Int):=b.symm.trans a
 have d:Nat.lor 1 (n*4294967296)=Nat.lor (n*4294967296) 1:=Nat.or_comm _ _
 rw[d];omega
theorem zqn (a:Nat) (h:a<4294967296):Nat.land (a*4294967296+1) 18446744069414584320=a*4294967296:=by
 rw[<- zme a h]
 have d:=Nat.and_or_distrib_right (1:Nat) (a*4294967296) 18446744069414584320
 refine Eq.trans d ?_
 have e:(1:Nat) &&& 18446744069414584320=0:=by decide
 rw[e]
 refine Eq.trans (Nat.zero_or _) ?_
 exact zmh a h
section
variable {e:SE} {x:Int} (hx:e.den E=x) (h0:0<=x) (h1:x<4294967296)
include hx h0 h1
theorem cv_u:SE.den E (.cv .u64 e)=x:=by
 show IntKind.wrap .u64 (e.den E)=x
 rw[hx,IntKind.wrap_u64];omega
theorem sh_u:SE.den E (shF e)=x*4294967296:=by
 show arS .shl .u64 (SE.den E (.cv .u64 e)) ((32:Nat):Int)=_
 rw[cv_u hx h0 h1,shl_val 32 (by omega) h0 (by omega)]
 rfl
theorem or_u:SE.den E (orF e)=x*4294967296+1:=by
 show arS .or .u64 1 (SE.den E (shF e))=_
 rw[sh_u hx h0 h1]
 obtain⟨n,rfl⟩:=Int.eq_ofNat_of_zero_le h0
 have e1:(n:Int)*4294967296=((n*4294967296:Nat):Int):=by simp
 rw[e1]
 refine(zlI 1 (n*4294967296) (by omega) (by omega)).trans ?_
 rw[zme n (by omega)];omega
theorem un_u:SE.den E (upkF e)=x:=by
 show IntKind.wrap .i64 (arS .shr .u64 (arS .and .u64 (SE.den E (orF e)) 18446744069414584320) ((32:Nat):Int))=x
 rw[or_u hx h0 h1]
 have hi:arS .and .u64 (x*4294967296+1) 18446744069414584320=x*4294967296:=by
  obtain⟨n,rfl⟩:=Int.eq_ofNat_of_zero_le h0
  have e1:(n:Int)*4294967296+1=((n*4294967296+1:Nat):Int):=by simp
  rw[e1]
  refine(zmG (n*4294967296+1) 18446744069414584320 (by omega) (by omega)).trans ?_
  rw[zqn n (by omega)];simp
 rw[hi,zgA 32 (by omega) (by omega),IntKind.wrap_i64]
 have:x*4294967296 / 2 ^ 32=x:=by omega
 rw[this];omega
theorem com_ok:∀ c∈comF e,SB.den E c.1=c.2:=by
 unfold comF
 simp only[List.mem_cons,List.not_mem_nil,or_false,forall_eq_or_imp,forall_eq]
 refine⟨?_,?_,?_,?_,?_,?_⟩
 ·show (!(!iEq (SE.den E (upkF e)) (e.den E)))=true
  rw[un_u hx h0 h1,hx,yN]
  simp
 ·show iLt (e.den E) 0=false
  rw[hx,za3]
  exact decide_eq_false (by omega)
 ·have a:SE.den E (.op .shr .u64 (shF e) (.lit 32))=x:=by
   show arS .shr .u64 (SE.den E (shF e)) ((32:Nat):Int)=x
   rw[sh_u hx h0 h1,zgA 32 (by omega) (by omega)]
   omega
  show (!iEq (SE.den E (.op .shr .u64 (shF e) (.lit 32))) (SE.den E (.cv .u64 e)))=false
  rw[a,cv_u hx h0 h1,yN]
  simp
 ·show iEq (arS .andNot .u64 (SE.den E (shF e)) 18446744069414584320) 0=true
  rw[sh_u hx h0 h1]
  obtain⟨n,rfl⟩:=Int.eq_ofNat_of_zero_le h0
  have e1:(n:Int)*4294967296=((n*4294967296:Nat):Int):=by simp
  rw[e1]
  rw[show (18446744069414584320:Int)=((18446744069414584320:Nat):Int) from rfl,zfB (n*4294967296) 18446744069414584320 (by omega) (by omega),zmh n (by omega)]
  have:Nat.xor (n*4294967296) (n*4294967296)=0:=Nat.xor_self _
  rw[this];rfl
 ·show iEq (arS .shr .u64 (SE.den E (orF e)) ((64:Nat):Int)) 0=true
  rw[or_u hx h0 h1,zgA 64 (by omega) (by omega),yN]
  exact decide_eq_true (by omega)
 ·show iEq (arS .and .u64 (SE.den E (orF e)) 4294967295) 1=true
  rw[or_u hx h0 h1,zkD (m:=4294967295) 32 (by decide) (by omega) (by omega) (by omega),yN]
  exact decide_eq_true (by omega)
theorem low_u:SE.den E (lowF e)=x:=by
 show IntKind.wrap .i64 (arS .and .u64 (SE.den E (.cv .u64 e)) 4294967295)=x
 rw[cv_u hx h0 h1,zkD (m:=4294967295) 32 (by decide) (by omega) (by omega) (by omega),IntKind.wrap_i64]
 have:x % 2 ^ 32=x:=by omega
 rw[this];omega
end
theorem fxB_ok (h3:I64 (E.i 3)) (h4:I64 (E.i 4)) (h6:E.i 6=jT (E.i 4) 65536) (h7:E.i 7=jT (E.i 3) 2) (b:Bool):∀ c∈fxB b,SB.den E c.1=c.2:=by
 obtain⟨p1,p2⟩:=zpJ (c:=E.i 4) (n:=65536) (by omega)
 rw[<- h6]at p1 p2
 cases b with
 | false=>
  refine zhi (com_ok (e:=nF false) (x:=E.i 6) rfl p1 (by omega)) ?_
  simp only[List.mem_cons,List.not_mem_nil,or_false,forall_eq_or_imp,forall_eq]
  refine⟨?_,zby rfl rfl (decide_eq_true p2)⟩
  show iLe 0 (E.i 6)=true
  rw[zdH]
  exact decide_eq_true p1
 | true=>
  have hx:(nF true).den E=E.i 6+20:=by
   show js .i64 (E.i 6+20)=_
   rw[zX,IntKind.wrap_i64];omega
  have ne:∀ n:Int,n<20->SB.den E (.cmp .eql (nF true) (.lit n))=false:=fun n hn=>by
   show iEq ((nF true).den E) n=false
   rw[hx,yN]
   exact decide_eq_false (by omega)
  refine zhi (com_ok hx (by omega) (by omega)) ?_
  simp only[List.mem_cons,List.not_mem_nil,or_false,forall_eq_or_imp,forall_eq]
  refine⟨?_,ne 8 (by omega),ne 1 (by omega),ne 2 (by omega),ne 3 (by omega),ne 4 (by omega),ne 5 (by omega),ne 6 (by omega),ne 7 (by omega)⟩
  show (!(!iEq (SE.den E (lowF (nF true))) ((nF true).den E)))=true
  rw[low_u hx (by omega) (by omega),hx,yN]
  simp
end
theorem pk2_0:zar cx1 0 zab 10 [.si .i64 (.v 0),.i .i64 2] ⟨.h,.h,.e⟩ ⟨[(.cmp .lss (.v 0) (.lit 0),false)],[]⟩ (zha (.si .i64 (.op .rem .i64 (.v 0) (.lit 2))))=0:=by decide +kernel
theorem pk2_1:zar cx1 0 zab 10 [.si .i64 (.v 0),.i .i64 2] ⟨.h,.h,.e⟩ ⟨[(.cmp .lss (.v 0) (.lit 0),true)],[]⟩ (zha (.si .i64 (.op .rem .i64 (.op .sub .i64 (.lit 0) (.op .add .i64 (.v 0) (.lit 1))) (.lit 2))))=0:=by decide +kernel
theorem znt:zar cx1 0 zab 10 [.si .i64 (.v 0),.i .i64 65536] ⟨.h,.h,.e⟩ ⟨[(.cmp .lss (.v 0) (.lit 0),false)],[]⟩ (zha (.si .i64 (.op .rem .i64 (.v 0) (.lit 65536))))=0:=by decide +kernel
theorem zns:zar cx1 0 zab 10 [.si .i64 (.v 0),.i .i64 65536] ⟨.h,.h,.e⟩ ⟨[(.cmp .lss (.v 0) (.lit 0),true)],[]⟩ (zha (.si .i64 (.op .rem .i64 (.op .sub .i64 (.lit 0) (.op .add .i64 (.v 0) (.lit 1))) (.lit 65536))))=0:=by decide +kernel
end Go.Ev.X
end
set_option linter.unusedSimpArgs false
set_option linter.unusedVariables false
set_option maxRecDepth 100000
noncomputable section
namespace Go.Ev.X
open Go Go.Ev Go.Proofs
theorem go0t:zbL st qC.x qC.z (koB qC.rs) ⟨cpF,6,20000⟩ (2*0) ⟨fGoQ 40 true ++ fxB true,[]⟩ (nx2 (tN 0 true) (sgN 0 true))=0:=by decide +kernel
theorem go0f:zbL st qC.x qC.z (koB qC.rs) ⟨cpF,6,20000⟩ (2*0) ⟨fGoQ 40 false ++ fxB false,[]⟩ (nx2 (tN 0 false) (sgN 0 false))=0:=by decide +kernel
theorem out0_0:zbL st qC.x qC.z (koB qC.rs) ⟨zab,6,20000⟩ (2*0+1) ⟨zde 40 0,[]⟩ []=0:=by decide +kernel
theorem out0_1:zbL st qC.x qC.z (koB qC.rs) ⟨zab,6,20000⟩ (2*0+1) ⟨zde 40 1,[]⟩ []=0:=by decide +kernel
theorem out0_2:zbL st qC.x qC.z (koB qC.rs) ⟨zab,6,20000⟩ (2*0+1) ⟨zde 40 2,[]⟩ []=0:=by decide +kernel
theorem rw0_0:zeX st 0 0=true:=by decide +kernel
theorem rw0_1:zeX st 0 1=true:=by decide +kernel
end Go.Ev.X
end
set_option linter.unusedSimpArgs false
set_option linter.unusedVariables false
set_option maxRecDepth 100000
noncomputable section
namespace Go.Ev.X
open Go Go.Ev Go.Proofs
theorem go1t:zbL st qC.x qC.z (koB qC.rs) ⟨cpF,6,20000⟩ (2*1) ⟨fGoQ 40 true ++ fxB true,[]⟩ (nx2 (tN 1 true) (sgN 1 true))=0:=by decide +kernel
theorem go1f:zbL st qC.x qC.z (koB qC.rs) ⟨cpF,6,20000⟩ (2*1) ⟨fGoQ 40 false ++ fxB false,[]⟩ (nx2 (tN 1 false) (sgN 1 false))=0:=by decide +kernel
theorem out1_0:zbL st qC.x qC.z (koB qC.rs) ⟨zab,6,20000⟩ (2*1+1) ⟨zde 40 0,[]⟩ []=0:=by decide +kernel
theorem out1_1:zbL st qC.x qC.z (koB qC.rs) ⟨zab,6,20000⟩ (2*1+1) ⟨zde 40 1,[]⟩ []=0:=by decide +kernel
theorem out1_2:zbL st qC.x qC.z (koB qC.rs) ⟨zab,6,20000⟩ (2*1+1) ⟨zde 40 2,[]⟩ []=0:=by decide +kernel
theorem rw1_0:zeX st 1 0=true:=by decide +kernel
theorem rw1_1:zeX st 1 1=true:=by decide +kernel
end Go.Ev.X
end
set_option linter.unusedSimpArgs false
set_option linter.unusedVariables false
set_option maxRecDepth 100000
noncomputable section
namespace Go.Ev.X
open Go Go.Ev Go.Proofs
theorem r_in:za2 [.fs .h 0,.fs (.o .h) 1] (fun fr=>zIn qC.z ⟨zec,6,20000⟩ fr hR2 ⟨[],[]⟩ (fun fr h _=>ze8 st (nx2 0 sg0) fr h) (koB qC.rs))=0:=by decide +kernel
theorem r_nn:zar cx1 0 zec 6 [.snil,.snil] ⟨.h,.h,.e⟩ ⟨[],[]⟩ endB=0:=by decide +kernel
theorem r_nl:zar cx1 0 zec 6 [.snil,.fs .h 0] hR ⟨[],[]⟩ endB=0:=by decide +kernel
theorem r_lt:zar cx1 0 zec 6 [.fs .h 0,.snil] hR ⟨[(.cmp .lss (.lit 0) (.v 1),true)],[]⟩ endB=0:=by decide +kernel
theorem r_lf:zar cx1 0 zec 6 [.fs .h 0,.snil] hR ⟨[(.cmp .lss (.lit 0) (.v 1),false)],[]⟩ endB=0:=by decide +kernel
end Go.Ev.X
end
