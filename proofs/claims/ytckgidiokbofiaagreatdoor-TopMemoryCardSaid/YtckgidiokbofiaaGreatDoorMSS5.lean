import Derived.Test.YtckgidiokbofiaaGreatDoorMSD0
set_option linter.unusedSimpArgs false
set_option linter.unusedVariables false
set_option maxRecDepth 100000
noncomputable section
namespace Go.Ev.X
open Go Go.Ev
def zhu:List Sm:=[zf 1257]
theorem zkx:zg zk 101 zc zhu=true:=by decide +kernel
def zht:List Sm:=[zf 1258]
theorem zkw:zg zk 101 zc zht=true:=by decide +kernel
def zhs:List Sm:=[zf 1259]
theorem zkv:zg zk 101 zc zhs=true:=by decide +kernel
def zhr:List Sm:=[zf 1260]
theorem zku:zg zk 101 zc zhr=true:=by decide +kernel
def zhq:List Sm:=[zf 1261]
theorem zkt:zg zk 101 zc zhq=true:=by decide +kernel
def zhp:List Sm:=[zf 1262]
theorem zks:zg zk 101 zc zhp=true:=by decide +kernel
def zho:List Sm:=[zf 1263]
theorem zkr:zg zk 101 zc zho=true:=by decide +kernel
def zhn:List Sm:=[zf 1264]
theorem zkq:zg zk 101 zc zhn=true:=by decide +kernel
def zhm:List Sm:=[zf 1265]
theorem zkp:zg zk 101 zc zhm=true:=by decide +kernel
def zhl:List Sm:=[zf 1266]
theorem zko:zg zk 101 zc zhl=true:=by decide +kernel
def zhk:List Sm:=[zf 1267]
theorem zkn:zg zk 101 zc zhk=true:=by decide +kernel
def zhj:List Sm:=[zf 1268]
theorem zkm:zg zk 101 zc zhj=true:=by decide +kernel
def zhi:List Sm:=[zf 1269]
theorem zkl:zg zk 101 zc zhi=true:=by decide +kernel
def zhh:List Sm:=[zf 1270]
theorem zkk:zg zk 101 zc zhh=true:=by decide +kernel
def zhg:List Sm:=[zf 1271]
theorem zkj:zg zk 101 zc zhg=true:=by decide +kernel
def zhf:List Sm:=[zf 1272]
theorem zki:zg zk 101 zc zhf=true:=by decide +kernel
def zhe:List Sm:=[zf 1273]
theorem zkh:zg zk 101 zc zhe=true:=by decide +kernel
def zhd:List Sm:=[zf 1274]
theorem zkg:zg zk 101 zc zhd=true:=by decide +kernel
def zhc:List Sm:=[zf 1275]
theorem zkf:zg zk 101 zc zhc=true:=by decide +kernel
def zhb:List Sm:=[zf 1276]
theorem zke:zg zk 101 zc zhb=true:=by decide +kernel
def zha:List Sm:=[zf 1277]
theorem zkd:zg zk 101 zc zha=true:=by decide +kernel
def zg9:List Sm:=[zf 1278]
theorem zkc:zg zk 101 zc zg9=true:=by decide +kernel
def zg8:List Sm:=[zf 1279]
theorem zkb:zg zk 101 zc zg8=true:=by decide +kernel
def zg7:List Sm:=[zf 1280]
theorem zka:zg zk 101 zc zg7=true:=by decide +kernel
def zg6:List Sm:=[zf 1281]
theorem zj9:zg zk 101 zc zg6=true:=by decide +kernel
def zg5:List Sm:=[zf 1282]
theorem zj8:zg zk 101 zc zg5=true:=by decide +kernel
def zg4:List Sm:=[zf 1283]
theorem zj7:zg zk 101 zc zg4=true:=by decide +kernel
def zg3:List Sm:=[zf 1284]
theorem zj6:zg zk 101 zc zg3=true:=by decide +kernel
def zg2:List Sm:=[zf 1285]
theorem zj5:zg zk 101 zc zg2=true:=by decide +kernel
def zg1:List Sm:=[zf 1286]
theorem zj4:zg zk 101 zc zg1=true:=by decide +kernel
def zg0:List Sm:=[zf 1287]
theorem zj3:zg zk 101 zc zg0=true:=by decide +kernel
def zgZ:List Sm:=[zf 1288]
theorem zj2:zg zk 101 zc zgZ=true:=by decide +kernel
def zgY:List Sm:=[zf 1289]
theorem zj1:zg zk 101 zc zgY=true:=by decide +kernel
def zgX:List Sm:=[zf 1290]
theorem zj0:zg zk 101 zc zgX=true:=by decide +kernel
def zgW:List Sm:=[zf 1291]
theorem zjZ:zg zk 101 zc zgW=true:=by decide +kernel
def zgV:List Sm:=[zf 1292]
theorem zjY:zg zk 101 zc zgV=true:=by decide +kernel
def zgU:List Sm:=[zf 1293]
theorem zjX:zg zk 101 zc zgU=true:=by decide +kernel
def zgT:List Sm:=[zf 1294]
theorem zjW:zg zk 101 zc zgT=true:=by decide +kernel
def zgS:List Sm:=[zf 1295]
theorem zjV:zg zk 101 zc zgS=true:=by decide +kernel
def zgR:List Sm:=[zf 1296]
theorem zjU:zg zk 101 zc zgR=true:=by decide +kernel
def zgQ:List Sm:=[zf 1297]
theorem zjT:zg zk 101 zc zgQ=true:=by decide +kernel
def zgP:List Sm:=[zf 1298]
theorem zjS:zg zk 101 zc zgP=true:=by decide +kernel
def zgO:List Sm:=[zf 1299]
theorem zjR:zg zk 101 zc zgO=true:=by decide +kernel
def zgN:List Sm:=[zf 1300]
theorem zjQ:zg zk 101 zc zgN=true:=by decide +kernel
def zgM:List Sm:=[zf 1301]
theorem zjP:zg zk 101 zc zgM=true:=by decide +kernel
def zgL:List Sm:=[zf 1302]
theorem zjO:zg zk 101 zc zgL=true:=by decide +kernel
def zgK:List Sm:=[zf 1303]
theorem zjN:zg zk 101 zc zgK=true:=by decide +kernel
def zgJ:List Sm:=[zf 1304]
theorem zjM:zg zk 101 zc zgJ=true:=by decide +kernel
def zgI:List Sm:=[zf 1305]
theorem zjL:zg zk 101 zc zgI=true:=by decide +kernel
def zgH:List Sm:=[zf 1306]
theorem zjK:zg zk 101 zc zgH=true:=by decide +kernel
def zgG:List Sm:=[zf 1307]
theorem zjJ:zg zk 101 zc zgG=true:=by decide +kernel
def zgF:List Sm:=[zf 1308]
theorem zjI:zg zk 101 zc zgF=true:=by decide +kernel
def zgE:List Sm:=[zf 1309]
theorem zjH:zg zk 101 zc zgE=true:=by decide +kernel
def zgD:List Sm:=[zf 1310]
theorem zjG:zg zk 101 zc zgD=true:=by decide +kernel
def zgC:List Sm:=[zf 1311]
theorem zjF:zg zk 101 zc zgC=true:=by decide +kernel
def zgB:List Sm:=[zf 1312]
theorem zjE:zg zk 101 zc zgB=true:=by decide +kernel
def zgA:List Sm:=[zf 1313]
theorem zjD:zg zk 101 zc zgA=true:=by decide +kernel
def zgz:List Sm:=[zf 1314]
theorem zjC:zg zk 101 zc zgz=true:=by decide +kernel
def zgy:List Sm:=[zf 1315]
theorem zjB:zg zk 101 zc zgy=true:=by decide +kernel
def zgx:List Sm:=[zf 1316]
theorem zjA:zg zk 101 zc zgx=true:=by decide +kernel
def zgw:List Sm:=[zf 1317]
theorem zjz:zg zk 101 zc zgw=true:=by decide +kernel
def zgv:List Sm:=[zf 1318]
theorem zjy:zg zk 101 zc zgv=true:=by decide +kernel
def zgu:List Sm:=[zf 1319]
theorem zjx:zg zk 101 zc zgu=true:=by decide +kernel
def zgt:List Sm:=[zf 1320]
theorem zjw:zg zk 101 zc zgt=true:=by decide +kernel
def zgs:List Sm:=[zf 1321]
theorem zjv:zg zk 101 zc zgs=true:=by decide +kernel
def zgr:List Sm:=[zf 1322]
theorem zju:zg zk 101 zc zgr=true:=by decide +kernel
def zgq:List Sm:=[zf 1323]
theorem zjt:zg zk 101 zc zgq=true:=by decide +kernel
def zgp:List Sm:=[zf 1324]
theorem zjs:zg zk 101 zc zgp=true:=by decide +kernel
def zgo:List Sm:=[zf 1325]
theorem zjr:zg zk 101 zc zgo=true:=by decide +kernel
def zgn:List Sm:=[zf 1326]
theorem zjq:zg zk 101 zc zgn=true:=by decide +kernel
def zgm:List Sm:=[zf 1327]
theorem zjp:zg zk 101 zc zgm=true:=by decide +kernel
def zgl:List Sm:=[⟨[(.one (.i .i64 1288))],[(1288,100),(1289,101)],[((.cmp .neq (.op .shr .u64 (.v 100) (.lit 34)) (.lit 0)),false),((.cmp .neq (.op .shr .u64 (.v 101) (.lit 44)) (.lit 0)),false),((.cmp .gtr (.cv .i64 (.op .shr .u64 (.op .and .u64 (.v 100) (.lit 262140)) (.lit 2))) (.lit 0)),false),((.cmp .eql (.cv .i64 (.op .shr .u64 (.op .and .u64 (.v 100) (.lit 262140)) (.lit 2))) (.lit 0)),true),((.cmp .eql (.cv .i64 (.op .shr .u64 (.op .and .u64 (.v 100) (.lit 3)) (.lit 0))) (.lit 0)),true),((.cmp .eql (.cv .i64 (.op .shr .u64 (.op .and .u64 (.v 100) (.lit 17179607040)) (.lit 18))) (.lit 0)),true),((.cmp .gtr (.cv .i64 (.op .shr .u64 (.op .and .u64 (.v 101) (.lit 268435455)) (.lit 0))) (.lit 0)),false)],(.tup [(.agg [(.i .i64 0),(.i .i64 0),(.i .i64 0),(.s .i64 (.cv .i64 (.op .shr .u64 (.op .and .u64 (.v 101) (.lit 268435455)) (.lit 0)))),(.s .i64 (.cv .i64 (.op .shr .u64 (.op .and .u64 (.v 101) (.lit 17591917608960)) (.lit 28))))]),(.one (.i .i64 0))]),[],2⟩]
theorem zjo:zg mc242 242 zc zgl=true:=by decide +kernel
def zgk:List Sm:=[⟨[(.one (.i .i64 1280))],[(1280,100)],[((.cmp .neq (.op .shr .u64 (.v 100) (.lit 34)) (.lit 0)),false),((.cmp .eql (.cv .i64 (.op .shr .u64 (.op .and .u64 (.v 100) (.lit 3)) (.lit 0))) (.lit 0)),true),((.cmp .eql (.cv .i64 (.op .shr .u64 (.op .and .u64 (.v 100) (.lit 262140)) (.lit 2))) (.lit 0)),true),((.cmp .eql (.cv .i64 (.op .shr .u64 (.op .and .u64 (.v 100) (.lit 17179607040)) (.lit 18))) (.lit 0)),true)],(.tup [(.agg [(.i .i64 0),(.i .i64 0),(.i .i64 0)]),(.one (.i .i64 0))]),[],1⟩,
 ⟨[(.one (.i .i64 1280))],[(1280,100)],[((.cmp .neq (.op .shr .u64 (.v 100) (.lit 34)) (.lit 0)),false),((.cmp .eql (.cv .i64 (.op .shr .u64 (.op .and .u64 (.v 100) (.lit 3)) (.lit 0))) (.lit 0)),false),((.cmp .leq (.cv .i64 (.op .shr .u64 (.op .and .u64 (.v 100) (.lit 3)) (.lit 0))) (.lit 2)),true),((.cmp .gtr (.cv .i64 (.op .shr .u64 (.op .and .u64 (.v 100) (.lit 262140)) (.lit 2))) (.lit 0)),true),((.cmp .gtr (.cv .i64 (.op .shr .u64 (.op .and .u64 (.v 100) (.lit 17179607040)) (.lit 18))) (.lit 0)),true)],(.tup [(.agg [(.s .i64 (.cv .i64 (.op .shr .u64 (.op .and .u64 (.v 100) (.lit 3)) (.lit 0)))),(.s .i64 (.cv .i64 (.op .shr .u64 (.op .and .u64 (.v 100) (.lit 262140)) (.lit 2)))),(.s .i64 (.cv .i64 (.op .shr .u64 (.op .and .u64 (.v 100) (.lit 17179607040)) (.lit 18))))]),(.one (.i .i64 0))]),[],1⟩]
theorem zjn:zg mc244 244 zc zgk=true:=by decide +kernel
end Go.Ev.X
end
