import Derived.Test.YtckgidiokbofiaaGreatDoorMSD0
set_option linter.unusedSimpArgs false
set_option linter.unusedVariables false
set_option maxRecDepth 100000
noncomputable section
namespace Go.Ev.X
open Go Go.Ev
def zrA:List Sm:=[zh 1242]
theorem zrz:zg zt 34 zc zrA=true:=by decide +kernel
def zry:List Sm:=[zh 1243]
theorem zrx:zg zt 34 zc zry=true:=by decide +kernel
def zrw:List Sm:=[zh 1244]
theorem zrv:zg zt 34 zc zrw=true:=by decide +kernel
def zru:List Sm:=[zh 1245]
theorem zrt:zg zt 34 zc zru=true:=by decide +kernel
def zrs:List Sm:=[zh 1246]
theorem zrr:zg zt 34 zc zrs=true:=by decide +kernel
def zrq:List Sm:=[zh 1247]
theorem zrp:zg zt 34 zc zrq=true:=by decide +kernel
def zro:List Sm:=[zh 1248]
theorem zrn:zg zt 34 zc zro=true:=by decide +kernel
def zrm:List Sm:=[zh 1249]
theorem zrl:zg zt 34 zc zrm=true:=by decide +kernel
def zrk:List Sm:=[zh 1250]
theorem zrj:zg zt 34 zc zrk=true:=by decide +kernel
def zri:List Sm:=[zh 1251]
theorem zrh:zg zt 34 zc zri=true:=by decide +kernel
def zrg:List Sm:=[zh 1252]
theorem zrf:zg zt 34 zc zrg=true:=by decide +kernel
def zre:List Sm:=[zh 1253]
theorem zrd:zg zt 34 zc zre=true:=by decide +kernel
def zrc:List Sm:=[zh 1254]
theorem zrb:zg zt 34 zc zrc=true:=by decide +kernel
def zra:List Sm:=[zh 1255]
theorem zq9:zg zt 34 zc zra=true:=by decide +kernel
def zq8:List Sm:=[zh 1256]
theorem zq7:zg zt 34 zc zq8=true:=by decide +kernel
def zq6:List Sm:=[zh 1257]
theorem zq5:zg zt 34 zc zq6=true:=by decide +kernel
def zq4:List Sm:=[zh 1258]
theorem zq3:zg zt 34 zc zq4=true:=by decide +kernel
def zq2:List Sm:=[zh 1259]
theorem zq1:zg zt 34 zc zq2=true:=by decide +kernel
def zq0:List Sm:=[zh 1260]
theorem zqZ:zg zt 34 zc zq0=true:=by decide +kernel
def zqY:List Sm:=[zh 1261]
theorem zqX:zg zt 34 zc zqY=true:=by decide +kernel
def zqW:List Sm:=[zh 1262]
theorem zqV:zg zt 34 zc zqW=true:=by decide +kernel
def zqU:List Sm:=[zh 1263]
theorem zqT:zg zt 34 zc zqU=true:=by decide +kernel
def zqS:List Sm:=[zh 1264]
theorem zqR:zg zt 34 zc zqS=true:=by decide +kernel
def zqQ:List Sm:=[zh 1265]
theorem zqP:zg zt 34 zc zqQ=true:=by decide +kernel
def zqO:List Sm:=[zh 1266]
theorem zqN:zg zt 34 zc zqO=true:=by decide +kernel
def zqM:List Sm:=[zh 1267]
theorem zqL:zg zt 34 zc zqM=true:=by decide +kernel
def zqK:List Sm:=[zh 1268]
theorem zqJ:zg zt 34 zc zqK=true:=by decide +kernel
def zqI:List Sm:=[zh 1269]
theorem zqH:zg zt 34 zc zqI=true:=by decide +kernel
def zqG:List Sm:=[zh 1270]
theorem zqF:zg zt 34 zc zqG=true:=by decide +kernel
def zqE:List Sm:=[zh 1271]
theorem zqD:zg zt 34 zc zqE=true:=by decide +kernel
def zqC:List Sm:=[zh 1272]
theorem zqB:zg zt 34 zc zqC=true:=by decide +kernel
def zqA:List Sm:=[zh 1273]
theorem zqz:zg zt 34 zc zqA=true:=by decide +kernel
def zqy:List Sm:=[zh 1274]
theorem zqx:zg zt 34 zc zqy=true:=by decide +kernel
def zqw:List Sm:=[zh 1275]
theorem zqv:zg zt 34 zc zqw=true:=by decide +kernel
def zqu:List Sm:=[zh 1276]
theorem zqt:zg zt 34 zc zqu=true:=by decide +kernel
def zqs:List Sm:=[zh 1277]
theorem zqr:zg zt 34 zc zqs=true:=by decide +kernel
def zqq:List Sm:=[zh 1278]
theorem zqp:zg zt 34 zc zqq=true:=by decide +kernel
def zqo:List Sm:=[zh 1279]
theorem zqn:zg zt 34 zc zqo=true:=by decide +kernel
def zqm:List Sm:=[zh 1280]
theorem zql:zg zt 34 zc zqm=true:=by decide +kernel
def zqk:List Sm:=[zh 1281]
theorem zqj:zg zt 34 zc zqk=true:=by decide +kernel
def zqi:List Sm:=[zh 1282]
theorem zqh:zg zt 34 zc zqi=true:=by decide +kernel
def zqg:List Sm:=[zh 1283]
theorem zqf:zg zt 34 zc zqg=true:=by decide +kernel
def zqe:List Sm:=[zh 1284]
theorem zqd:zg zt 34 zc zqe=true:=by decide +kernel
def zqc:List Sm:=[zh 1285]
theorem zqb:zg zt 34 zc zqc=true:=by decide +kernel
def zqa:List Sm:=[zh 1286]
theorem zp9:zg zt 34 zc zqa=true:=by decide +kernel
def zp8:List Sm:=[zh 1287]
theorem zp7:zg zt 34 zc zp8=true:=by decide +kernel
def zp6:List Sm:=[zh 1288]
theorem zp5:zg zt 34 zc zp6=true:=by decide +kernel
def zp4:List Sm:=[zh 1289]
theorem zp3:zg zt 34 zc zp4=true:=by decide +kernel
def zp2:List Sm:=[zh 1290]
theorem zp1:zg zt 34 zc zp2=true:=by decide +kernel
def zp0:List Sm:=[zh 1291]
theorem zpZ:zg zt 34 zc zp0=true:=by decide +kernel
def zpY:List Sm:=[zh 1292]
theorem zpX:zg zt 34 zc zpY=true:=by decide +kernel
def zpW:List Sm:=[zh 1293]
theorem zpV:zg zt 34 zc zpW=true:=by decide +kernel
def zpU:List Sm:=[zh 1294]
theorem zpT:zg zt 34 zc zpU=true:=by decide +kernel
def zpS:List Sm:=[zh 1295]
theorem zpR:zg zt 34 zc zpS=true:=by decide +kernel
def zpQ:List Sm:=[zh 1296]
theorem zpP:zg zt 34 zc zpQ=true:=by decide +kernel
def zpO:List Sm:=[zh 1297]
theorem zpN:zg zt 34 zc zpO=true:=by decide +kernel
def zpM:List Sm:=[zh 1298]
theorem zpL:zg zt 34 zc zpM=true:=by decide +kernel
def zpK:List Sm:=[zh 1299]
theorem zpJ:zg zt 34 zc zpK=true:=by decide +kernel
def zpI:List Sm:=[zh 1300]
theorem zpH:zg zt 34 zc zpI=true:=by decide +kernel
def zpG:List Sm:=[zh 1301]
theorem zpF:zg zt 34 zc zpG=true:=by decide +kernel
def zpE:List Sm:=[zh 1302]
theorem zpD:zg zt 34 zc zpE=true:=by decide +kernel
def zpC:List Sm:=[zh 1303]
theorem zpB:zg zt 34 zc zpC=true:=by decide +kernel
def zpA:List Sm:=[zh 1304]
theorem zpz:zg zt 34 zc zpA=true:=by decide +kernel
def zpy:List Sm:=[zh 1305]
theorem zpx:zg zt 34 zc zpy=true:=by decide +kernel
def zpw:List Sm:=[zh 1306]
theorem zpv:zg zt 34 zc zpw=true:=by decide +kernel
def zpu:List Sm:=[zh 1307]
theorem zpt:zg zt 34 zc zpu=true:=by decide +kernel
def zps:List Sm:=[zh 1308]
theorem zpr:zg zt 34 zc zps=true:=by decide +kernel
def zpq:List Sm:=[zh 1309]
theorem zpp:zg zt 34 zc zpq=true:=by decide +kernel
def zpo:List Sm:=[zh 1310]
theorem zpn:zg zt 34 zc zpo=true:=by decide +kernel
def zpm:List Sm:=[zh 1311]
theorem zpl:zg zt 34 zc zpm=true:=by decide +kernel
def zpk:List Sm:=[zh 1312]
theorem zpj:zg zt 34 zc zpk=true:=by decide +kernel
def zpi:List Sm:=[zh 1313]
theorem zph:zg zt 34 zc zpi=true:=by decide +kernel
def zpg:List Sm:=[zh 1314]
theorem zpf:zg zt 34 zc zpg=true:=by decide +kernel
def zpe:List Sm:=[zh 1315]
theorem zpd:zg zt 34 zc zpe=true:=by decide +kernel
def zpc:List Sm:=[zh 1316]
theorem zpb:zg zt 34 zc zpc=true:=by decide +kernel
def zpa:List Sm:=[zh 1317]
theorem zo9:zg zt 34 zc zpa=true:=by decide +kernel
def zo8:List Sm:=[zh 1318]
theorem zo7:zg zt 34 zc zo8=true:=by decide +kernel
def zo6:List Sm:=[zh 1319]
theorem zo5:zg zt 34 zc zo6=true:=by decide +kernel
def zo4:List Sm:=[zh 1320]
theorem zo3:zg zt 34 zc zo4=true:=by decide +kernel
def zo2:List Sm:=[zh 1321]
theorem zo1:zg zt 34 zc zo2=true:=by decide +kernel
def zo0:List Sm:=[zh 1322]
theorem zoZ:zg zt 34 zc zo0=true:=by decide +kernel
end Go.Ev.X
end
