import Derived.Test.YtckgidiokbofiaaGreatDoorSD0
set_option linter.unusedSimpArgs false
set_option linter.unusedVariables false
set_option maxRecDepth 100000
noncomputable section
namespace Go.Ev.X
open Go Go.Ev
def zgU:List Sm:=[yW 1656]
theorem zh9:zk zaD 242 ze zgU=true:=by decide +kernel
def zgT:List Sm:=[yV 1280,
 ⟨[(.one (.i .i64 1280))],[(1280,100)],[((.cmp .neq (.op .shr .u64 (.v 100) (.lit 34)) (.lit 0)),false),((.cmp .eql (.cv .i64 (.op .shr .u64 (.op .and .u64 (.v 100) (.lit 3)) (.lit 0))) (.lit 0)),false),((.cmp .leq (.cv .i64 (.op .shr .u64 (.op .and .u64 (.v 100) (.lit 3)) (.lit 0))) (.lit 2)),true),((.cmp .gtr (.cv .i64 (.op .shr .u64 (.op .and .u64 (.v 100) (.lit 262140)) (.lit 2))) (.lit 0)),true),((.cmp .gtr (.cv .i64 (.op .shr .u64 (.op .and .u64 (.v 100) (.lit 17179607040)) (.lit 18))) (.lit 0)),true)],(.tup [(.agg [(.s .i64 (.cv .i64 (.op .shr .u64 (.op .and .u64 (.v 100) (.lit 3)) (.lit 0)))),(.s .i64 (.cv .i64 (.op .shr .u64 (.op .and .u64 (.v 100) (.lit 262140)) (.lit 2)))),(.s .i64 (.cv .i64 (.op .shr .u64 (.op .and .u64 (.v 100) (.lit 17179607040)) (.lit 18))))]),(.one (.i .i64 0))]),[],1⟩]
theorem zh8:zk zaC 244 ze zgT=true:=by decide +kernel
def zgS:List Sm:=[yV 1536]
theorem zh7:zk zaC 244 ze zgS=true:=by decide +kernel
def zgR:List Sm:=[yV 1540]
theorem zh6:zk zaC 244 ze zgR=true:=by decide +kernel
def zgQ:List Sm:=[yV 1544]
theorem zh5:zk zaC 244 ze zgQ=true:=by decide +kernel
def zgP:List Sm:=[yV 1548]
theorem zh4:zk zaC 244 ze zgP=true:=by decide +kernel
def zgO:List Sm:=[yV 1552]
theorem zh3:zk zaC 244 ze zgO=true:=by decide +kernel
def zgN:List Sm:=[yV 1556]
theorem zh2:zk zaC 244 ze zgN=true:=by decide +kernel
def zgM:List Sm:=[yV 1560]
theorem zh1:zk zaC 244 ze zgM=true:=by decide +kernel
def zgL:List Sm:=[yV 1564]
theorem zh0:zk zaC 244 ze zgL=true:=by decide +kernel
def zgK:List Sm:=[yV 1568]
theorem zhZ:zk zaC 244 ze zgK=true:=by decide +kernel
def zgJ:List Sm:=[yV 1572]
theorem zhY:zk zaC 244 ze zgJ=true:=by decide +kernel
def zgI:List Sm:=[yV 1576]
theorem zhX:zk zaC 244 ze zgI=true:=by decide +kernel
def zgH:List Sm:=[yV 1580]
theorem zhW:zk zaC 244 ze zgH=true:=by decide +kernel
def zgG:List Sm:=[yV 1584]
theorem zhV:zk zaC 244 ze zgG=true:=by decide +kernel
def zgF:List Sm:=[yV 1588]
theorem zhU:zk zaC 244 ze zgF=true:=by decide +kernel
def zgE:List Sm:=[yV 1592]
theorem zhT:zk zaC 244 ze zgE=true:=by decide +kernel
def zgD:List Sm:=[yV 1596]
theorem zhS:zk zaC 244 ze zgD=true:=by decide +kernel
def zgC:List Sm:=[⟨[(.one (.i .i64 1280)),(.agg [(.w .i64 10),(.w .i64 11),(.w .i64 12)])],[],[((.cmp .lss (.v 10) (.lit 0)),false),((.cmp .lss (.v 11) (.lit 0)),false),((.cmp .lss (.v 12) (.lit 0)),false),((.cmp .neq (.op .shr .u64 (.op .shl .u64 (.cv .u64 (.v 10)) (.lit 0)) (.lit 0)) (.cv .u64 (.v 10))),false),((.cmp .neq (.op .andNot .u64 (.op .shl .u64 (.cv .u64 (.v 10)) (.lit 0)) (.lit 3)) (.lit 0)),false),((.cmp .neq (.op .shr .u64 (.op .shl .u64 (.cv .u64 (.v 11)) (.lit 2)) (.lit 2)) (.cv .u64 (.v 11))),false),((.cmp .neq (.op .andNot .u64 (.op .shl .u64 (.cv .u64 (.v 11)) (.lit 2)) (.lit 262140)) (.lit 0)),false),((.cmp .neq (.op .shr .u64 (.op .shl .u64 (.cv .u64 (.v 12)) (.lit 18)) (.lit 18)) (.cv .u64 (.v 12))),false),((.cmp .neq (.op .andNot .u64 (.op .shl .u64 (.cv .u64 (.v 12)) (.lit 18)) (.lit 17179607040)) (.lit 0)),false),((.cmp .eql (.v 10) (.lit 0)),false),((.cmp .leq (.v 10) (.lit 2)),true),((.cmp .gtr (.v 11) (.lit 0)),true),((.cmp .gtr (.v 12) (.lit 0)),true)],(.one (.one (.i .i64 0))),[(1280,(.s .u64 (.op .or .u64 (.op .andNot .u64 (.op .or .u64 (.op .andNot .u64 (.op .or .u64 (.lit 0) (.op .shl .u64 (.cv .u64 (.v 10)) (.lit 0))) (.lit 262140)) (.op .shl .u64 (.cv .u64 (.v 11)) (.lit 2))) (.lit 17179607040)) (.op .shl .u64 (.cv .u64 (.v 12)) (.lit 18)))))],1⟩,
 ⟨[(.one (.i .i64 1280)),(.agg [(.w .i64 10),(.w .i64 11),(.w .i64 12)])],[],[((.cmp .lss (.v 10) (.lit 0)),false),((.cmp .lss (.v 11) (.lit 0)),false),((.cmp .lss (.v 12) (.lit 0)),false),((.cmp .neq (.op .shr .u64 (.op .shl .u64 (.cv .u64 (.v 10)) (.lit 0)) (.lit 0)) (.cv .u64 (.v 10))),false),((.cmp .neq (.op .andNot .u64 (.op .shl .u64 (.cv .u64 (.v 10)) (.lit 0)) (.lit 3)) (.lit 0)),false),((.cmp .neq (.op .shr .u64 (.op .shl .u64 (.cv .u64 (.v 11)) (.lit 2)) (.lit 2)) (.cv .u64 (.v 11))),false),((.cmp .neq (.op .andNot .u64 (.op .shl .u64 (.cv .u64 (.v 11)) (.lit 2)) (.lit 262140)) (.lit 0)),false),((.cmp .neq (.op .shr .u64 (.op .shl .u64 (.cv .u64 (.v 12)) (.lit 18)) (.lit 18)) (.cv .u64 (.v 12))),false),((.cmp .neq (.op .andNot .u64 (.op .shl .u64 (.cv .u64 (.v 12)) (.lit 18)) (.lit 17179607040)) (.lit 0)),false),((.cmp .eql (.v 10) (.lit 0)),true),((.cmp .eql (.v 10) (.lit 0)),true),((.cmp .eql (.v 11) (.lit 0)),true),((.cmp .eql (.v 12) (.lit 0)),true)],(.one (.one (.i .i64 0))),[(1280,(.i .u64 0))],1⟩]
theorem zhR:zk mc291 291 ze zgC=true:=by decide +kernel
end Go.Ev.X
end
