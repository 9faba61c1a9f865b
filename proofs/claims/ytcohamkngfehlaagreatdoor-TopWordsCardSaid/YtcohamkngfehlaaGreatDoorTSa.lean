import Derived.Test.YtcohamkngfehlaaGreatDoorAX
import Derived.Test.YtcohamkngfehlaaGreatDoorEvTd
import Derived.Test.YtcohamkngfehlaaGreatDoorE5
set_option linter.unusedSimpArgs false
set_option linter.unusedVariables false
set_option maxRecDepth 100000
noncomputable section
namespace Go.Ev.X
open Go Go.Ev Go.Proofs
def q1:P:=.h
def q2:P:=.o q1
def q3:P:=.i q1
def q4:P:=.o q2
def q5:P:=.i q2
def q7:P:=.i q3
def q8:P:=.o q4
def q11:P:=.i q5
def q15:P:=.i q7
def q17:P:=.i q8
def q22:P:=.o q11
def q23:P:=.i q11
def q31:P:=.i q15
def q34:P:=.o q17
def q35:P:=.i q17
def q44:P:=.o q22
def q45:P:=.i q22
def q46:P:=.o q23
def q62:P:=.o q31
def q68:P:=.o q34
def q69:P:=.i q34
def q70:P:=.o q35
def q124:P:=.o q62
def q137:P:=.i q68
def q138:P:=.o q69
def q139:P:=.i q69
def q140:P:=.o q70
def q249:P:=.i q124
def q275:P:=.i q137
def q276:P:=.o q138
def q277:P:=.i q138
def q278:P:=.o q139
def q279:P:=.i q139
def q280:P:=.o q140
def q281:P:=.i q140
def q498:P:=.o q249
def q499:P:=.i q249
def u0:Nat × V:=(1280,(.i .u64 0))
def u1:Nat × V:=(1056,(.i .u64 6))
def u2:Nat × V:=(1120,(.i .u64 1))
def u3:Nat × V:=(1057,(.i .u64 257))
def u4:Nat × V:=(1121,(.i .u64 257))
def hat0:Tr V:=(.node (.node (.node (.node (.node (.node (.node (.node (.node (.node (.node .nil (.node (.node (.leaf (.i .u64 7696585607170)) .nil) .nil)) .nil) .nil) .nil) (.node (.node (.node (.node .nil (.node (.node (.leaf (.i .u64 7696585608194)) .nil) .nil)) .nil) .nil) .nil)) (.node (.node (.node (.node (.node (.node (.node (.leaf (.i .u64 16387)) .nil) .nil) (.node (.node (.leaf (.i .u64 0)) .nil) .nil)) .nil) .nil) .nil) (.node (.node (.node (.node .nil (.node (.node (.leaf (.i .u64 0)) .nil) .nil)) .nil) .nil) .nil))) (.node (.node (.node (.node (.node (.node .nil (.node (.node (.leaf (.i .u64 10313)) .nil) .nil)) .nil) .nil) .nil) (.node (.node (.node (.node .nil (.node (.node (.leaf (.i .u64 26697)) .nil) .nil)) .nil) .nil) .nil)) .nil)) (.node (.node (.node (.node (.node (.node (.node (.node (.node (.leaf (.i .u64 512)) .nil) .nil) .nil) .nil) .nil) (.node (.node (.node .nil (.node (.node (.leaf (.i .u64 234901637)) .nil) .nil)) .nil) .nil)) (.node .nil (.node (.node (.node .nil (.node (.node (.leaf (.i .u64 234901637)) .nil) .nil)) .nil) .nil))) (.node (.node (.node (.node (.node .nil (.node (.node (.leaf (.i .u64 0)) .nil) .nil)) .nil) .nil) .nil) (.node (.node (.node (.node .nil (.node (.node (.leaf (.i .u64 0)) .nil) .nil)) .nil) .nil) .nil))) .nil)) (.node (.node (.node (.node (.node (.node (.node (.node (.node (.node (.leaf (.i .u64 1)) .nil) .nil) .nil) .nil) .nil) (.node (.node (.node .nil (.node (.node (.leaf (.i .u64 234901508)) .nil) .nil)) .nil) .nil)) (.node .nil (.node (.node (.node .nil (.node (.node (.leaf (.i .u64 234901508)) .nil) .nil)) .nil) .nil))) (.node (.node (.node (.node (.node (.node (.node (.leaf (.i .u64 17411)) .nil) .nil) (.node (.node (.leaf (.i .u64 0)) .nil) .nil)) .nil) .nil) .nil) (.node (.node (.node (.node .nil (.node (.node (.leaf (.i .u64 0)) .nil) .nil)) .nil) .nil) .nil))) .nil) (.node (.node .nil (.node (.node (.node (.node (.node .nil (.node (.node (.leaf (.i .u64 0)) .nil) .nil)) .nil) .nil) .nil) (.node (.node (.node (.node .nil (.node (.node (.leaf (.i .u64 0)) .nil) .nil)) .nil) .nil) .nil))) (.node .nil (.node (.node (.node (.node (.node (.node (.node (.leaf (.i .u64 34359759111)) .nil) .nil) .nil) .nil) .nil) .nil) .nil))))) (.node (.node (.node (.node (.node (.node (.node (.node (.node (.node (.node (.leaf (.i .u64 1160)) .nil) .nil) (.node (.node (.leaf (.i .u64 2360384)) .nil) .nil)) .nil) .nil) .nil) (.node (.node (.node (.node .nil (.node (.node (.leaf (.i .u64 67108924)) .nil) .nil)) .nil) .nil) .nil)) (.node (.node (.node (.node (.node (.node (.node (.leaf (.i .u64 36)) .nil) .nil) (.node (.node (.leaf (.si .u64 (.v 6))) .nil) .nil)) .nil) .nil) .nil) (.node (.node (.node (.node .nil (.node (.node (.leaf (.si .u64 (.v 7))) .nil) .nil)) .nil) .nil) .nil))) (.node (.node (.node (.node (.node (.node .nil (.node (.node (.leaf (.i .u64 0)) .nil) .nil)) .nil) .nil) .nil) (.node (.node (.node (.node .nil (.node (.node (.leaf (.i .u64 0)) .nil) .nil)) .nil) .nil) .nil)) .nil)) (.node (.node (.node (.node .nil (.node (.node (.node .nil (.node (.node (.leaf (.i .u64 80216064)) .nil) .nil)) .nil) .nil)) (.node .nil (.node (.node (.node .nil (.node (.node (.leaf (.i .u64 4370728072)) .nil) .nil)) .nil) .nil))) (.node (.node (.node (.node (.node .nil (.node (.node (.leaf (.i .u64 0)) .nil) .nil)) .nil) .nil) .nil) (.node (.node (.node (.node .nil (.node (.node (.leaf (.i .u64 0)) .nil) .nil)) .nil) .nil) .nil))) .nil)) (.node (.node (.node (.node (.node .nil (.node (.node (.node .nil (.node (.node (.leaf (.i .u64 79955144)) .nil) .nil)) .nil) .nil)) (.node .nil (.node (.node (.node .nil (.node (.node (.leaf (.i .u64 4298900612)) .nil) .nil)) .nil) .nil))) (.node (.node (.node (.node (.node (.node (.node (.leaf (.i .u64 2098176)) .nil) .nil) (.node (.node (.leaf (.i .u64 0)) .nil) .nil)) .nil) .nil) .nil) (.node (.node (.node (.node .nil (.node (.node (.leaf (.i .u64 0)) .nil) .nil)) .nil) .nil) .nil))) .nil) (.node (.node .nil (.node (.node (.node (.node (.node .nil (.node (.node (.leaf (.i .u64 0)) .nil) .nil)) .nil) .nil) .nil) (.node (.node (.node (.node .nil (.node (.node (.leaf (.i .u64 0)) .nil) .nil)) .nil) .nil) .nil))) (.node .nil (.node (.node (.node (.node (.node (.node (.node (.leaf (.i .u64 71304388)) .nil) .nil) .nil) .nil) .nil) .nil) .nil)))))) (.node (.node (.node (.node (.node (.node (.node (.node (.node (.node (.node (.node (.leaf (.i .u64 1024)) .nil) .nil) (.node (.node (.leaf (.i .u64 0)) .nil) .nil)) .nil) .nil) .nil) (.node (.node (.node (.node .nil (.node (.node (.leaf (.i .u64 0)) .nil) .nil)) .nil) .nil) .nil)) (.node (.node (.node (.node (.node (.node (.node (.leaf (.i .u64 0)) .nil) .nil) (.node (.node (.leaf (.i .u64 0)) .nil) .nil)) .nil) .nil) .nil) (.node (.node (.node (.node .nil (.node (.node (.leaf (.i .u64 0)) .nil) .nil)) .nil) .nil) .nil))) (.node (.node (.node (.node (.node (.node (.node (.node (.leaf (.i .u64 1296)) .nil) .nil) (.node (.node (.leaf (.i .u64 0)) .nil) .nil)) .nil) .nil) .nil) (.node (.node (.node (.node .nil (.node (.node (.leaf (.i .u64 0)) .nil) .nil)) .nil) .nil) .nil)) .nil)) (.node (.node (.node (.node (.node .nil (.node (.node (.node (.node (.leaf (.i .u64 71304256)) .nil) .nil) .nil) .nil)) (.node (.node (.node .nil (.node (.node (.leaf (.i .u64 1)) .nil) .nil)) .nil) .nil)) (.node .nil (.node (.node (.node .nil (.node (.node (.leaf (.i .u64 2)) .nil) .nil)) .nil) .nil))) (.node (.node (.node (.node (.node .nil (.node (.node (.leaf (.i .u64 0)) .nil) .nil)) .nil) .nil) .nil) (.node (.node (.node (.node .nil (.node (.node (.leaf (.i .u64 0)) .nil) .nil)) .nil) .nil) .nil))) .nil)) (.node (.node (.node (.node (.node .nil (.node (.node (.node .nil (.node (.node (.leaf (.i .u64 5)) .nil) .nil)) .nil) .nil)) (.node .nil (.node (.node (.node .nil (.node (.node (.leaf (.i .u64 6)) .nil) .nil)) .nil) .nil))) (.node (.node (.node (.node (.node (.node (.node (.leaf (.i .u64 0)) .nil) .nil) (.node (.node (.leaf (.i .u64 0)) .nil) .nil)) .nil) .nil) .nil) (.node (.node (.node (.node .nil (.node (.node (.leaf (.i .u64 0)) .nil) .nil)) .nil) .nil) .nil))) .nil) (.node (.node .nil (.node (.node (.node (.node (.node .nil (.node (.node (.leaf (.i .u64 0)) .nil) .nil)) .nil) .nil) .nil) (.node (.node (.node (.node .nil (.node (.node (.leaf (.i .u64 0)) .nil) .nil)) .nil) .nil) .nil))) (.node .nil (.node (.node (.node (.node (.node (.node (.node (.leaf (.i .u64 0)) .nil) .nil) .nil) .nil) .nil) .nil) .nil))))) (.node (.node (.node (.node (.node (.node (.node (.node (.node .nil (.node (.node (.leaf (.i .u64 0)) .nil) .nil)) .nil) .nil) .nil) (.node (.node (.node (.node .nil (.node (.node (.leaf (.i .u64 0)) .nil) .nil)) .nil) .nil) .nil)) (.node (.node (.node (.node (.node (.node (.node (.leaf (.i .u64 0)) .nil) .nil) (.node (.node (.leaf (.i .u64 0)) .nil) .nil)) .nil) .nil) .nil) (.node (.node (.node (.node .nil (.node (.node (.leaf (.i .u64 0)) .nil) .nil)) .nil) .nil) .nil))) (.node (.node (.node (.node (.node (.node .nil (.node (.node (.leaf (.i .u64 1)) .nil) .nil)) .nil) .nil) .nil) (.node (.node (.node (.node .nil (.node (.node (.leaf (.i .u64 1)) .nil) .nil)) .nil) .nil) .nil)) .nil)) (.node (.node (.node (.node .nil (.node (.node (.node .nil (.node (.node (.leaf (.i .u64 0)) .nil) .nil)) .nil) .nil)) (.node .nil (.node (.node (.node .nil (.node (.node (.leaf (.i .u64 0)) .nil) .nil)) .nil) .nil))) (.node (.node (.node (.node (.node .nil (.node (.node (.leaf (.i .u64 0)) .nil) .nil)) .nil) .nil) .nil) (.node (.node (.node (.node .nil (.node (.node (.leaf (.i .u64 0)) .nil) .nil)) .nil) .nil) .nil))) .nil)) (.node (.node (.node (.node (.node .nil (.node (.node (.node .nil (.node (.node (.leaf (.i .u64 0)) .nil) .nil)) .nil) .nil)) (.node .nil (.node (.node (.node .nil (.node (.node (.leaf (.i .u64 0)) .nil) .nil)) .nil) .nil))) (.node (.node (.node (.node (.node (.node (.node (.leaf (.i .u64 0)) .nil) .nil) (.node (.node (.leaf (.i .u64 0)) .nil) .nil)) .nil) .nil) .nil) (.node (.node (.node (.node .nil (.node (.node (.leaf (.i .u64 0)) .nil) .nil)) .nil) .nil) .nil))) .nil) (.node (.node .nil (.node (.node (.node (.node (.node .nil (.node (.node (.leaf (.i .u64 0)) .nil) .nil)) .nil) .nil) .nil) (.node (.node (.node (.node .nil (.node (.node (.leaf (.i .u64 0)) .nil) .nil)) .nil) .nil) .nil))) (.node .nil (.node (.node (.node (.node (.node (.node (.node (.leaf (.i .u64 0)) .nil) .nil) .nil) .nil) .nil) .nil) .nil)))))))
def hab:List (P × OS):=[(q45,.o (.arr 41 4096 13 (.i .u64 0) hat0)),(q46,.o (.cells 133 [(.sl (q45) 0 4096 4096),(.si .i64 (.v 5))])),(q276,.o (.cells 126 [(.i .u16 0),(.i .u16 65535),(.i .u32 0)])),(q277,.o (.cells 131 [(.i .i64 0),(.i .i64 0),(.i .i64 0),(.i .i64 0),(.i .i64 0),(.i .i64 0),(.i .i64 0),(.i .i64 0),(.i .i64 0),(.i .i64 0),(.i .i64 0),(.i .i64 0),(.i .i64 0),(.i .i64 0),(.i .i64 0),(.i .i64 0),(.i .i64 0),(.i .i64 0),(.i .i64 0),(.i .i64 0),(.i .i64 0),(.i .i64 0),(.i .i64 0),(.i .i64 0),(.i .i64 0),(.i .i64 0),(.i .i64 0),(.i .i64 0),(.i .i64 0),(.i .i64 0),(.i .i64 0),(.i .i64 0)])),(q279,.o (.cells 81 [(.ptr (q46) 0),(.ptr (q276) 0),(.ptr (q277) 0),(.i .i64 0)])),(q280,.o (.cells 39 [(.ptr (q46) 0),(.ptr (q279) 0)]))]
def ha0:HS:=⟨q281,q3,hab ++ [(q1,.o (.row 0 1 (.v 1) (.v 2) [(.si .u64 (.v 3))])),(q2,.o (.row 1 1 (.v 8) (.v 2) []))]⟩
def ha1:HS:=⟨q281,q3,hab ++ [(q1,.o (.row 0 1 (.v 1) (.v 2) [(.si .u64 (.v 3))])),(q2,.o (.row 1 1 (.v 8) (.v 2) [(.b true)]))]⟩
def ha2:HS:=⟨q281,q3,hab ++ [(q1,.o (.row 0 1 (.v 1) (.v 2) [(.si .u64 (.v 3))])),(q2,.o (.row 1 1 (.v 8) (.v 2) [(.b false)]))]⟩
def ha3:HS:=⟨q281,q3,hab ++ [(q1,.o (.row 0 1 (.v 1) (.v 2) [])),(q2,.o (.row 1 1 (.v 8) (.v 2) []))]⟩
def ha4:HS:=⟨q499,q3,hab ++ [(q45,.u [u0,u1,u2,u3,u4]),(q1,.o (.row 0 1 (.v 1) (.v 2) [(.si .u64 (.v 3))])),(q2,.o (.row 1 1 (.v 8) (.v 2) []))]⟩
def ha5:HS:=⟨q499,q3,hab ++ [(q45,.u [u0,u1,u2,u3,u4]),(q1,.o (.row 0 1 (.v 1) (.v 2) [(.si .u64 (.v 3))])),(q2,.o (.row 1 1 (.v 8) (.v 2) [(.b true)]))]⟩
def ha6:HS:=⟨q499,q3,hab ++ [(q45,.u [u0,u1,u2,u3,u4]),(q1,.o (.row 0 1 (.v 1) (.v 2) [(.si .u64 (.v 3))])),(q2,.o (.row 1 1 (.v 8) (.v 2) [(.b false)]))]⟩
def ha7:HS:=⟨q499,q3,hab ++ [(q45,.u [u0,u1,u2,u3,u4]),(q1,.o (.row 0 1 (.v 1) (.v 2) [])),(q2,.o (.row 1 1 (.v 8) (.v 2) []))]⟩
def fr0:List (Ky × V):=[(k0,(.fs (q1) 0)),(k1,(.fs (q2) 1)),(k5,(.b true)),(k6,(.ptr (q280) 0)),(k7,(.si .i64 (.v 2))),(k8,(.si .i64 (.v 2)))]
def fr1:List (Ky × V):=[(k0,(.fs (q1) 0)),(k1,(.fs (q2) 1)),(k5,(.b true)),(k6,(.ptr (q280) 0)),(k7,(.si .i64 (.v 2))),(k8,(.si .i64 (.v 2)))]
def st (j:Nat):GS:=(nth [⟨fr0,ha0.mk'⟩,⟨fr0,ha1.mk'⟩,⟨fr0,ha2.mk'⟩,⟨fr0,ha3.mk'⟩,⟨fr1,ha4.mk'⟩,⟨fr1,ha5.mk'⟩,⟨fr1,ha6.mk'⟩,⟨fr1,ha7.mk'⟩] j).getD ⟨[],⟨.h,.h,.e⟩⟩
def hbb:List (P × OS):=[(q44,.o (.arr 41 4096 13 (.i .u64 0) hat0)),(q45,.o (.cells 133 [(.sl (q44) 0 4096 4096),(.si .i64 (.v 5))])),(q275,.o (.cells 126 [(.i .u16 0),(.i .u16 65535),(.i .u32 0)])),(q276,.o (.cells 131 [(.i .i64 0),(.i .i64 0),(.i .i64 0),(.i .i64 0),(.i .i64 0),(.i .i64 0),(.i .i64 0),(.i .i64 0),(.i .i64 0),(.i .i64 0),(.i .i64 0),(.i .i64 0),(.i .i64 0),(.i .i64 0),(.i .i64 0),(.i .i64 0),(.i .i64 0),(.i .i64 0),(.i .i64 0),(.i .i64 0),(.i .i64 0),(.i .i64 0),(.i .i64 0),(.i .i64 0),(.i .i64 0),(.i .i64 0),(.i .i64 0),(.i .i64 0),(.i .i64 0),(.i .i64 0),(.i .i64 0),(.i .i64 0)])),(q278,.o (.cells 81 [(.ptr (q45) 0),(.ptr (q275) 0),(.ptr (q276) 0),(.i .i64 0)])),(q279,.o (.cells 39 [(.ptr (q45) 0),(.ptr (q278) 0)]))]
def hb0:HS:=⟨q280,q2,hbb ++ [(q1,.o (.row 0 1 (.v 1) (.v 2) [(.si .u64 (.v 3))]))]⟩
def hb1:HS:=⟨q280,q2,hbb ++ [(q1,.o (.row 0 1 (.v 1) (.v 2) []))]⟩
def hb2:HS:=⟨q498,q2,hbb ++ [(q44,.u [u0,u1,u2,u3,u4]),(q1,.o (.row 0 1 (.v 1) (.v 2) [(.si .u64 (.v 3))]))]⟩
def hb3:HS:=⟨q498,q2,hbb ++ [(q44,.u [u0,u1,u2,u3,u4]),(q1,.o (.row 0 1 (.v 1) (.v 2) []))]⟩
def fs0:List (Ky × V):=[(k0,(.fs (q1) 0)),(k1,.snil),(k5,(.b true)),(k6,(.ptr (q279) 0)),(k7,(.si .i64 (.v 2))),(k8,(.si .i64 (.v 2)))]
def fs1:List (Ky × V):=[(k0,(.fs (q1) 0)),(k1,.snil),(k5,(.b true)),(k6,(.ptr (q279) 0)),(k7,(.si .i64 (.v 2))),(k8,(.si .i64 (.v 2)))]
def su (j:Nat):GS:=(nth [⟨fs0,hb0.mk'⟩,⟨fs0,hb1.mk'⟩,⟨fs1,hb2.mk'⟩,⟨fs1,hb3.mk'⟩] j).getD ⟨[],⟨.h,.h,.e⟩⟩
def tN (j v:Nat):Nat:=(nth ((nth [[1,1,1],[1,1,1]] j).getD []) v).getD 0
def sgN (j v:Nat):List (Nat × SE):=(nth ((nth [[[(1,(.v 1)),(2,(.op .add .i64 (.v 2) (.lit 1))),(5,(.op .add .i64 (.v 5) (.lit 926))),(6,(.v 3)),(7,(.v 3)),(8,(.v 8))],[(1,(.v 1)),(2,(.op .add .i64 (.v 2) (.lit 1))),(5,(.op .add .i64 (.v 5) (.lit 1032))),(6,(.v 3)),(7,(.v 3)),(8,(.v 8))],[(1,(.v 1)),(2,(.op .add .i64 (.v 2) (.lit 1))),(5,(.op .add .i64 (.v 5) (.lit 926))),(6,(.v 3)),(7,(.v 3)),(8,(.v 8))]],
 [[(1,(.v 1)),(2,(.op .add .i64 (.v 2) (.lit 1))),(5,(.op .add .i64 (.v 5) (.lit 926))),(6,(.v 3)),(7,(.v 3)),(8,(.v 8))],[(1,(.v 1)),(2,(.op .add .i64 (.v 2) (.lit 1))),(5,(.op .add .i64 (.v 5) (.lit 1032))),(6,(.v 3)),(7,(.v 3)),(8,(.v 8))],[(1,(.v 1)),(2,(.op .add .i64 (.v 2) (.lit 1))),(5,(.op .add .i64 (.v 5) (.lit 926))),(6,(.v 3)),(7,(.v 3)),(8,(.v 8))]]] j).getD []) v).getD []
def sg0:List (Nat × SE):=[(1,(.v 1)),(2,(.lit 0)),(5,(.lit 484)),(6,(.lit 0)),(7,(.lit 0)),(8,(.v 8))]
def uN (j:Nat):Nat:=(nth [1,1] j).getD 0
def suN (j:Nat):List (Nat × SE):=(nth [[(1,(.v 1)),(2,(.op .add .i64 (.v 2) (.lit 1))),(5,(.op .add .i64 (.v 5) (.lit 926))),(6,(.v 3)),(7,(.v 3))],
 [(1,(.v 1)),(2,(.op .add .i64 (.v 2) (.lit 1))),(5,(.op .add .i64 (.v 5) (.lit 926))),(6,(.v 3)),(7,(.v 3))]] j).getD []
def su0:List (Nat × SE):=[(1,(.v 1)),(2,(.lit 0)),(5,(.lit 484)),(6,(.lit 0)),(7,(.lit 0))]
def qC:CutX:=⟨(.seqR (.ops [.op (some k4) none (.mov (.c (.b false)))]) (.seqR (.ops [.call (some k15) none (.c (.fn 9 [] [])) [],.op (some k5) none (.mov (.s k15))]) (.seqR (.ops [.call (some k16) none (.c (.fn 16 [] [])) [],.call (some k17) none (.c (.fn 11 [] [])) [(.s k16)],.op (some k6) none (.mov (.s k17))]) (.seqR (.seq (.ops [.op (some k18) none (.mov (.s k6)),.op (some k19) none (.bin .eql .ptr (.s k18) (.c .nil))]) (.cond k19 (.seq (.ops [.op (some k4) none (.mov (.c (.b false)))]) .ret) .skip)) (.seqR (.ops [.op (some k7) none (.mov (.c (.i .i64 0)))]) (.seqL (.seqR (.ops [.op (some k8) none (.mov (.c (.i .i64 0)))]) (.block 0 .hole)) (.seq (.ops [.op (some k103) none (.mov (.s k5)),.op (some k4) none (.mov (.s k103))]) .ret))))))),(.seq (.seq (.ops [.op (some k20) none (.mov (.s k8)),.op (some k21) none (.mov (.s k0)),.op (some k22) none (.lens (.s k21)),.op (some k23) none (.bin .lss .num (.s k20) (.s k22)),.op (some k24) none (.mov (.s k23)),.op (some k25) (some (k24,true)) (.mov (.s k8)),.op (some k26) (some (k24,true)) (.bin .lss .num (.s k25) (.c (.i .i64 40))),.op (some k27) none (.pick (.s k24) (.s k26) (.c (.b false)))]) (.cond k27 .skip (.exit 0))) (.seq (.block 1 (.seq (.ops [.op (some k30) none (.mov (.s k6)),.op (some k31) none (.bsl 41 1 [(.i .u64 0)] [(0,1,(.c (.i .u64 1)))]),.call (some k32) none (.c (.fn 17 [] [])) [(.s k30),(.c (.i .i64 4)),(.s k31)],.op (some k9) none (.mov (.s k32))]) (.seq (.ops [.op (some k33) none (.mov (.s k6)),.op (some k34) none (.nilc (.s k33)),.op (some k35) none (.fad 0 (.s k34)),.op (some k36) none (.ld (.s k35)),.call (some k37) none (.c (.fn 14 [] [])) [(.s k36)],.op (some k10) none (.mov (.s k37))]) (.seq (.seq (.ops [.op (some k38) none (.mov (.s k9)),.op (some k39) none (.bin .neq .num (.s k38) (.c (.i .i64 0))),.op (some k40) none (.mov (.s k39)),.op (some k41) (some (k40,false)) (.mov (.s k10)),.op (some k42) (some (k40,false)) (.bin .neq .num (.s k41) (.c (.i .i64 1088))),.op (some k43) none (.pick (.s k40) (.c (.b true)) (.s k42))]) (.cond k43 (.seq (.ops [.op (some k4) none (.mov (.c (.b false)))]) .ret) .skip)) (.seq (.seq (.hops [] [(true,.op (some k44) none (.mov (.s k6))),(true,.op (some k46) none (.mov (.s k0))),(true,.op (some k47) none (.mov (.s k8))),(true,.op (some k48) none (.ixs 1 (.s k46) (.s k47))),(true,.op (some k49) none (.ld (.s k48))),(false,.call (some k45) none (.c (.fn 18 [] [])) [(.c (.i .i64 1)),(.c (.i .i64 0)),(.c (.i .i64 1))]),(false,.op (some k50) none (.bsl 41 3 [(.i .u64 0),(.i .u64 0),(.i .u64 0)] [(0,1,(.c (.i .u64 1))),(1,1,(.s k45)),(2,1,(.s k49))]))]) (.ops [.call (some k51) none (.c (.fn 17 [] [])) [(.s k44),(.c (.i .i64 2)),(.s k50)],.op (some k11) none (.mov (.s k51))])) (.seq (.ops [.op (some k53) none (.mov (.s k6)),.op (some k54) none (.nilc (.s k53)),.op (some k55) none (.fad 0 (.s k54)),.op (some k56) none (.ld (.s k55)),.call (some k57) none (.c (.fn 19 [] [])) [(.s k56),(.c (.i .i64 1024)),(.c (.i .i64 2))],.op (some k52) none (.mov (.s k57)),.op (some k58) none (.ext (.s k52) 0),.op (some k59) none (.ext (.s k52) 1),.op (some k12) none (.mov (.s k58)),.op (some k13) none (.mov (.s k59))]) (.seq (.seq (.ops [.op (some k60) none (.mov (.s k11)),.op (some k61) none (.bin .neq .num (.s k60) (.c (.i .i64 0))),.op (some k62) none (.mov (.s k61)),.op (some k63) (some (k62,false)) (.mov (.s k13)),.op (some k64) (some (k62,false)) (.bin .neq .num (.s k63) (.c (.i .i64 0))),.op (some k65) none (.pick (.s k62) (.c (.b true)) (.s k64)),.op (some k66) none (.mov (.s k65)),.op (some k67) (some (k66,false)) (.mov (.s k12)),.op (some k68) (some (k66,false)) (.mov (.s k0)),.op (some k69) (some (k66,false)) (.mov (.s k8)),.op (some k70) (some (k66,false)) (.ixs 1 (.s k68) (.s k69)),.op (some k71) (some (k66,false)) (.ld (.s k70)),.op (some k72) (some (k66,false)) (.bin .neq .num (.s k67) (.s k71)),.op (some k73) none (.pick (.s k66) (.c (.b true)) (.s k72))]) (.cond k73 (.seq (.ops [.op (some k4) none (.mov (.c (.b false)))]) .ret) .skip)) (.seq (.seq (.ops [.op (some k74) none (.mov (.s k7)),.op (some k75) none (.mov (.s k1)),.op (some k76) none (.lens (.s k75)),.op (some k77) none (.bin .lss .num (.s k74) (.s k76)),.op (some k78) none (.mov (.s k77)),.op (some k79) (some (k78,true)) (.mov (.s k1)),.op (some k80) (some (k78,true)) (.mov (.s k7)),.op (some k81) (some (k78,true)) (.ixs 1 (.s k79) (.s k80)),.op (some k82) (some (k78,true)) (.ld (.s k81)),.op (some k83) none (.pick (.s k78) (.s k82) (.c (.b false)))]) (.cond k83 (.ops [.op (some k84) none (.mov (.s k6)),.op (some k85) none (.nilc (.s k84)),.op (some k86) none (.fad 1 (.s k85)),.op (some k87) none (.ld (.s k86)),.op (some k88) none (.agg [(.i .i64 0),(.i .i64 0),(.i .i64 0),(.i .u64 0)] [(0,1,(.c (.i .i64 5)))]),.call (some k89) none (.c (.fn 13 [] [])) [(.s k87),(.s k88)]]) .skip)) (.seq (.ops [.op (some k90) none (.mov (.s k7)),.op (some k91) none (.bin .add .num (.s k90) (.c (.i .i64 1))),.op (some k7) none (.mov (.s k91))]) (.seq (.ops [.op (some k92) none (.mov (.s k6)),.op (some k93) none (.nilc (.s k92)),.op (some k94) none (.fad 0 (.s k93)),.op (some k95) none (.ld (.s k94)),.call (some k96) none (.c (.fn 14 [] [])) [(.s k95)],.op (some k10) none (.mov (.s k96))]) (.seq (.ops [.op (some k97) none (.mov (.s k10)),.op (some k98) none (.bin .eql .num (.s k97) (.c (.i .i64 1088)))]) (.cond k98 (.seq (.ops [.op (some k99) none (.mov (.s k6)),.call (some k100) none (.c (.fn 17 [] [])) [(.s k99),(.c (.i .i64 8)),(.c .snil)],.op (some k14) none (.mov (.s k100))]) (.seq (.ops [.op (some k101) none (.mov (.s k14)),.op (some k102) none (.bin .neq .num (.s k101) (.c (.i .i64 0)))]) (.cond k102 (.seq (.ops [.op (some k4) none (.mov (.c (.b false)))]) .ret) .skip))) .skip)))))))))))) (.ops [.op (some k28) none (.mov (.s k8)),.op (some k29) none (.bin .add .num (.s k28) (.c (.i .i64 1))),.op (some k8) none (.mov (.s k29))]))),[.tmp k4]⟩
def hR:H:=⟨.o .h,.o .h,(PT.e:PT O).set .h (.row 0 1 (.v 1) (.v 2) [])⟩
def hR2:H:=⟨.i .h,.i .h,((PT.e:PT O).set .h (.row 0 1 (.v 1) (.v 2) [])).set (.o .h) (.row 1 1 (.v 8) (.v 2) [])⟩
theorem qcut:cutX (zk Tryz.prog) dr4 Tryz.f4=some qC:=by kernel_rfl
end Go.Ev.X
end
set_option linter.unusedSimpArgs false
set_option linter.unusedVariables false
set_option maxRecDepth 100000
noncomputable section
namespace Go.Ev.X
open Go Go.Ev Go.Proofs
theorem go0_0:jX st qC.x qC.z (koB qC.rs) ⟨y9,4,20000⟩ (4*0+0) ⟨zgZ 40 0,[]⟩ (nx4 (tN 0 0) (sgN 0 0))=0:=by decide +kernel
theorem go0_1:jX st qC.x qC.z (koB qC.rs) ⟨y9,4,20000⟩ (4*0+1) ⟨zgZ 40 1,[]⟩ (nx4 (tN 0 1) (sgN 0 1))=0:=by decide +kernel
theorem go0_2:jX st qC.x qC.z (koB qC.rs) ⟨y9,4,20000⟩ (4*0+2) ⟨zgZ 40 2,[]⟩ (nx4 (tN 0 2) (sgN 0 2))=0:=by decide +kernel
theorem out0t:jX st qC.x qC.z (koB qC.rs) ⟨y9,4,20000⟩ (4*0+3) ⟨zaW 40 true,[]⟩ []=0:=by decide +kernel
theorem out0f:jX st qC.x qC.z (koB qC.rs) ⟨y9,4,20000⟩ (4*0+3) ⟨zaW 40 false,[]⟩ []=0:=by decide +kernel
theorem rw0_0:zbH st 0 0=true:=by decide +kernel
theorem rw0_1:zbH st 0 1=true:=by decide +kernel
theorem rw0_2:zbH st 0 2=true:=by decide +kernel
theorem rw0_3:zbH st 0 3=true:=by decide +kernel
theorem go1_0:jX st qC.x qC.z (koB qC.rs) ⟨y9,4,20000⟩ (4*1+0) ⟨zgZ 40 0,[]⟩ (nx4 (tN 1 0) (sgN 1 0))=0:=by decide +kernel
theorem go1_1:jX st qC.x qC.z (koB qC.rs) ⟨y9,4,20000⟩ (4*1+1) ⟨zgZ 40 1,[]⟩ (nx4 (tN 1 1) (sgN 1 1))=0:=by decide +kernel
theorem go1_2:jX st qC.x qC.z (koB qC.rs) ⟨y9,4,20000⟩ (4*1+2) ⟨zgZ 40 2,[]⟩ (nx4 (tN 1 2) (sgN 1 2))=0:=by decide +kernel
theorem out1t:jX st qC.x qC.z (koB qC.rs) ⟨y9,4,20000⟩ (4*1+3) ⟨zaW 40 true,[]⟩ []=0:=by decide +kernel
theorem out1f:jX st qC.x qC.z (koB qC.rs) ⟨y9,4,20000⟩ (4*1+3) ⟨zaW 40 false,[]⟩ []=0:=by decide +kernel
theorem rw1_0:zbH st 1 0=true:=by decide +kernel
theorem rw1_1:zbH st 1 1=true:=by decide +kernel
theorem rw1_2:zbH st 1 2=true:=by decide +kernel
theorem rw1_3:zbH st 1 3=true:=by decide +kernel
end Go.Ev.X
end
set_option linter.unusedSimpArgs false
set_option linter.unusedVariables false
set_option maxRecDepth 100000
noncomputable section
namespace Go.Ev.X
open Go Go.Ev Go.Proofs
theorem ho0:jX su qC.x qC.z (koB qC.rs) ⟨y9,4,20000⟩ (2*0) ⟨(.cmp .lss (.v 2) (.lit 0),false)::fGoO 40,[]⟩ [(2*uN 0,sgA (suN 0)),(2*uN 0+1,sgA (suN 0))]=0:=by decide +kernel
theorem hout0t:jX su qC.x qC.z (koB qC.rs) ⟨y9,4,20000⟩ (2*0+1) ⟨zaW 40 true,[]⟩ []=0:=by decide +kernel
theorem hout0f:jX su qC.x qC.z (koB qC.rs) ⟨y9,4,20000⟩ (2*0+1) ⟨zaW 40 false,[]⟩ []=0:=by decide +kernel
theorem hrw0:zeR (su (2*0)).h=true/\rowU (su (2*0+1)).h=true:=by decide +kernel
theorem ho1:jX su qC.x qC.z (koB qC.rs) ⟨y9,4,20000⟩ (2*1) ⟨(.cmp .lss (.v 2) (.lit 0),false)::fGoO 40,[]⟩ [(2*uN 1,sgA (suN 1)),(2*uN 1+1,sgA (suN 1))]=0:=by decide +kernel
theorem hout1t:jX su qC.x qC.z (koB qC.rs) ⟨y9,4,20000⟩ (2*1+1) ⟨zaW 40 true,[]⟩ []=0:=by decide +kernel
theorem hout1f:jX su qC.x qC.z (koB qC.rs) ⟨y9,4,20000⟩ (2*1+1) ⟨zaW 40 false,[]⟩ []=0:=by decide +kernel
theorem hrw1:zeR (su (2*1)).h=true/\rowU (su (2*1+1)).h=true:=by decide +kernel
end Go.Ev.X
end
set_option linter.unusedSimpArgs false
set_option linter.unusedVariables false
set_option maxRecDepth 100000
noncomputable section
namespace Go.Ev.X
open Go Go.Ev Go.Proofs
theorem r_in:zaf [.fs .h 0,.fs (.o .h) 1] (fun fr=>zIn qC.z ⟨zd8,4,20000⟩ fr hR2 ⟨[],[]⟩ (fun fr h _=>zc2 st (nx4 0 sg0) fr h) (koB qC.rs))=0:=by decide +kernel
theorem r_ln:zaf [.fs .h 0,.snil] (fun fr=>zIn qC.z ⟨zd8,4,20000⟩ fr hR ⟨[],[]⟩ (fun fr h _=>zc2 su [(2*0,sgA su0),(2*0+1,sgA su0)] fr h) (koB qC.rs))=0:=by decide +kernel
theorem r_nn:zgf cx1 0 zd8 4 [.snil,.snil] ⟨.h,.h,.e⟩ ⟨[],[]⟩ endB=0:=by decide +kernel
theorem r_nl:zgf cx1 0 zd8 4 [.snil,.fs .h 0] hR ⟨[],[]⟩ endB=0:=by decide +kernel
end Go.Ev.X
end
