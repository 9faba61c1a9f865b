import Derived.Test.YtckgidiokbofiaaGreatDoorMSD0
set_option linter.unusedSimpArgs false
set_option linter.unusedVariables false
set_option maxRecDepth 100000
noncomputable section
namespace Go.Ev.X
open Go Go.Ev
def s71_32:List Sm:=[tm71_7 32]
theorem zxx:zg z9 71 zc s71_32=true:=by decide +kernel
def s71_36:List Sm:=[tm71_7 36]
theorem zxw:zg z9 71 zc s71_36=true:=by decide +kernel
def s71_40:List Sm:=[zD 40]
theorem zxv:zg z9 71 zc s71_40=true:=by decide +kernel
def s71_44:List Sm:=[zD 44]
theorem zxu:zg z9 71 zc s71_44=true:=by decide +kernel
def s71_48:List Sm:=[zD 48]
theorem zxt:zg z9 71 zc s71_48=true:=by decide +kernel
def s71_52:List Sm:=[zD 52]
theorem zxs:zg z9 71 zc s71_52=true:=by decide +kernel
def s71_56:List Sm:=[zD 56]
theorem zxr:zg z9 71 zc s71_56=true:=by decide +kernel
def s71_60:List Sm:=[⟨[(.one (.i .i64 60))],[(60,100),(61,101),(62,102),(63,103)],[((.cmp .eql (.op .shr .u64 (.op .and .u64 (.v 100) (.lit 32505856)) (.lit 20)) (.lit 0)),true),((.cmp .eql (.op .shr .u64 (.op .and .u64 (.v 100) (.lit 8521215115264)) (.lit 38)) (.lit 0)),true),((.cmp .neq (.op .shr .u64 (.v 100) (.lit 43)) (.lit 0)),false),((.cmp .geq (.v 101) (.lit 4294967296)),false),((.cmp .eql (.cv .i64 (.op .shr .u64 (.op .and .u64 (.v 100) (.lit 15)) (.lit 0))) (.lit 2)),false),((.cmp .eql (.cv .i64 (.op .shr .u64 (.op .and .u64 (.v 100) (.lit 15)) (.lit 0))) (.lit 4)),false),((.cmp .eql (.cv .i64 (.op .shr .u64 (.op .and .u64 (.v 100) (.lit 15)) (.lit 0))) (.lit 5)),false),((.cmp .eql (.cv .i64 (.op .shr .u64 (.op .and .u64 (.v 100) (.lit 15)) (.lit 0))) (.lit 6)),false),((.cmp .eql (.cv .i64 (.op .shr .u64 (.op .and .u64 (.v 100) (.lit 15)) (.lit 0))) (.lit 8)),false),((.cmp .eql (.cv .i64 (.op .shr .u64 (.op .and .u64 (.v 100) (.lit 15)) (.lit 0))) (.lit 1)),false),((.cmp .eql (.cv .i64 (.op .shr .u64 (.op .and .u64 (.v 100) (.lit 15)) (.lit 0))) (.lit 10)),false),((.cmp .eql (.cv .i64 (.op .shr .u64 (.op .and .u64 (.v 100) (.lit 15)) (.lit 0))) (.lit 3)),false),((.cmp .eql (.cv .i64 (.op .shr .u64 (.op .and .u64 (.v 100) (.lit 15)) (.lit 0))) (.lit 9)),false),((.cmp .eql (.cv .i64 (.op .shr .u64 (.op .and .u64 (.v 100) (.lit 15)) (.lit 0))) (.lit 7)),true),((.cmp .eql (.cv .i64 (.v 101)) (.lit 0)),true),((.cmp .eql (.cv .i64 (.op .shr .u64 (.op .and .u64 (.v 100) (.lit 234881024)) (.lit 25))) (.lit 0)),true),((.cmp .eql (.cv .i64 (.op .shr .u64 (.op .and .u64 (.v 100) (.lit 4026531840)) (.lit 28))) (.lit 0)),true),((.cmp .lss (.cv .i64 (.op .shr .u64 (.op .and .u64 (.v 100) (.lit 1048560)) (.lit 4))) (.lit 1024)),false),((.cmp .gtr (.cv .i64 (.op .shr .u64 (.op .and .u64 (.v 100) (.lit 1048560)) (.lit 4))) (.lit 65535)),false),((.cmp .neq (.op .rem .i64 (.cv .i64 (.op .shr .u64 (.op .and .u64 (.v 100) (.lit 1048560)) (.lit 4))) (.lit 8)) (.lit 0)),false),((.cmp .geq (.cv .i64 (.op .shr .u64 (.op .and .u64 (.v 100) (.lit 270582939648)) (.lit 32))) (.lit 0)),true),((.cmp .leq (.cv .i64 (.op .shr .u64 (.op .and .u64 (.v 100) (.lit 270582939648)) (.lit 32))) (.lit 63)),true),((.cmp .eql (.op .rem .i64 (.cv .i64 (.op .shr .u64 (.op .and .u64 (.v 100) (.lit 270582939648)) (.lit 32))) (.lit 8)) (.lit 0)),true),((.cmp .neq (.op .shr .u64 (.v 102) (.lit 48)) (.lit 0)),false),((.cmp .neq (.v 103) (.lit 0)),false),((.cmp .geq (.cv .i64 (.op .shr .u64 (.op .and .u64 (.v 102) (.lit 65535)) (.lit 0))) (.lit 0)),true),((.cmp .lss (.cv .i64 (.op .shr .u64 (.op .and .u64 (.v 102) (.lit 65535)) (.lit 0))) (.lit 65536)),true),((.cmp .eql (.op .rem .i64 (.cv .i64 (.op .shr .u64 (.op .and .u64 (.v 102) (.lit 65535)) (.lit 0))) (.lit 4)) (.lit 0)),true),((.cmp .geq (.cv .i64 (.op .shr .u64 (.op .and .u64 (.v 102) (.lit 4294901760)) (.lit 16))) (.lit 0)),true),((.cmp .lss (.cv .i64 (.op .shr .u64 (.op .and .u64 (.v 102) (.lit 4294901760)) (.lit 16))) (.lit 65536)),true),((.cmp .eql (.op .rem .i64 (.cv .i64 (.op .shr .u64 (.op .and .u64 (.v 102) (.lit 4294901760)) (.lit 16))) (.lit 4)) (.lit 0)),true),((.cmp .geq (.cv .i64 (.op .shr .u64 (.op .and .u64 (.v 102) (.lit 281470681743360)) (.lit 32))) (.lit 0)),true),((.cmp .lss (.cv .i64 (.op .shr .u64 (.op .and .u64 (.v 102) (.lit 281470681743360)) (.lit 32))) (.lit 65536)),true)],(.tup [(.agg [(.i .i64 7),(.s .i64 (.cv .i64 (.op .shr .u64 (.op .and .u64 (.v 100) (.lit 1048560)) (.lit 4)))),(.i .i64 0),(.i .i64 0),(.i .i64 0),(.i .i64 0),(.i .i64 0),(.i .i64 0),(.s .i64 (.cv .i64 (.op .shr .u64 (.op .and .u64 (.v 100) (.lit 270582939648)) (.lit 32)))),(.i .i64 0),(.i .i64 0),(.s .i64 (.cv .i64 (.op .shr .u64 (.op .and .u64 (.v 102) (.lit 65535)) (.lit 0)))),(.s .i64 (.cv .i64 (.op .shr .u64 (.op .and .u64 (.v 102) (.lit 4294901760)) (.lit 16)))),(.s .i64 (.cv .i64 (.op .shr .u64 (.op .and .u64 (.v 102) (.lit 281470681743360)) (.lit 32))))]),(.one (.i .i64 0))]),[],4⟩]
theorem zxq:zg z9 71 zc s71_60=true:=by decide +kernel
def s71_64:List Sm:=[zD 64]
theorem zxp:zg z9 71 zc s71_64=true:=by decide +kernel
def s71_68:List Sm:=[zD 68]
theorem zxo:zg z9 71 zc s71_68=true:=by decide +kernel
def s71_72:List Sm:=[zD 72]
theorem zxn:zg z9 71 zc s71_72=true:=by decide +kernel
def s71_76:List Sm:=[zD 76]
theorem zxm:zg z9 71 zc s71_76=true:=by decide +kernel
def s71_80:List Sm:=[zD 80]
theorem zxl:zg z9 71 zc s71_80=true:=by decide +kernel
def s71_84:List Sm:=[zD 84]
theorem zxk:zg z9 71 zc s71_84=true:=by decide +kernel
def s71_88:List Sm:=[zD 88]
theorem zxj:zg z9 71 zc s71_88=true:=by decide +kernel
def s71_92:List Sm:=[zD 92]
theorem zxi:zg z9 71 zc s71_92=true:=by decide +kernel
def s71_96:List Sm:=[zD 96]
theorem zxh:zg z9 71 zc s71_96=true:=by decide +kernel
def zv9:List Sm:=[zD 100]
theorem zu0:zg z9 71 zc zv9=true:=by decide +kernel
def zv8:List Sm:=[zD 104]
theorem zuZ:zg z9 71 zc zv8=true:=by decide +kernel
def zv7:List Sm:=[zD 108]
theorem zuY:zg z9 71 zc zv7=true:=by decide +kernel
def zv6:List Sm:=[zD 112]
theorem zuX:zg z9 71 zc zv6=true:=by decide +kernel
def zv5:List Sm:=[zD 116]
theorem zuW:zg z9 71 zc zv5=true:=by decide +kernel
def zv4:List Sm:=[zD 120]
theorem zuV:zg z9 71 zc zv4=true:=by decide +kernel
def zv3:List Sm:=[zD 124]
theorem zuU:zg z9 71 zc zv3=true:=by decide +kernel
def zoa:List Sm:=[tm71_9 1024]
theorem zn9:zg z9 71 zc zoa=true:=by decide +kernel
def zn8:List Sm:=[zD 1028,
 zeI 1028]
theorem zn7:zg z9 71 zc zn8=true:=by decide +kernel
def zn6:List Sm:=[zD 1032]
theorem zn5:zg z9 71 zc zn6=true:=by decide +kernel
def zn4:List Sm:=[tm71_9 1088]
theorem zn3:zg z9 71 zc zn4=true:=by decide +kernel
def zn2:List Sm:=[zD 1092,
 zeI 1092]
theorem zn1:zg z9 71 zc zn2=true:=by decide +kernel
def zn0:List Sm:=[zD 1096,
 zeI 1096]
theorem znZ:zg z9 71 zc zn0=true:=by decide +kernel
def znY:List Sm:=[zeI 1100]
theorem znX:zg z9 71 zc znY=true:=by decide +kernel
def znW:List Sm:=[zbg 1104]
theorem znV:zg z9 71 zc znW=true:=by decide +kernel
def znU:List Sm:=[zbg 1108]
theorem znT:zg z9 71 zc znU=true:=by decide +kernel
def znS:List Sm:=[zbg 1112]
theorem znR:zg z9 71 zc znS=true:=by decide +kernel
def znQ:List Sm:=[zbg 1116]
theorem znP:zg z9 71 zc znQ=true:=by decide +kernel
def znO:List Sm:=[zbg 1120]
theorem znN:zg z9 71 zc znO=true:=by decide +kernel
def znM:List Sm:=[zbg 1124]
theorem znL:zg z9 71 zc znM=true:=by decide +kernel
def znK:List Sm:=[zbg 1128]
theorem znJ:zg z9 71 zc znK=true:=by decide +kernel
def znI:List Sm:=[zbg 1132]
theorem znH:zg z9 71 zc znI=true:=by decide +kernel
def znG:List Sm:=[zD 1152]
theorem znF:zg z9 71 zc znG=true:=by decide +kernel
def znE:List Sm:=[zvX 1156]
theorem znD:zg z9 71 zc znE=true:=by decide +kernel
def znC:List Sm:=[zvW 1160]
theorem znB:zg z9 71 zc znC=true:=by decide +kernel
def znA:List Sm:=[zD 1164]
theorem znz:zg z9 71 zc znA=true:=by decide +kernel
def zny:List Sm:=[zD 1168]
theorem znx:zg z9 71 zc zny=true:=by decide +kernel
def znw:List Sm:=[zD 1172]
theorem znv:zg z9 71 zc znw=true:=by decide +kernel
def znu:List Sm:=[zD 1176]
theorem znt:zg z9 71 zc znu=true:=by decide +kernel
def zns:List Sm:=[zD 1180]
theorem znr:zg z9 71 zc zns=true:=by decide +kernel
def znq:List Sm:=[zD 1184]
theorem znp:zg z9 71 zc znq=true:=by decide +kernel
def zno:List Sm:=[zD 1188]
theorem znn:zg z9 71 zc zno=true:=by decide +kernel
def znm:List Sm:=[zD 1192]
theorem znl:zg z9 71 zc znm=true:=by decide +kernel
def znk:List Sm:=[zD 1196]
theorem znj:zg z9 71 zc znk=true:=by decide +kernel
def zni:List Sm:=[zD 1200]
theorem znh:zg z9 71 zc zni=true:=by decide +kernel
def zng:List Sm:=[zD 1204]
theorem znf:zg z9 71 zc zng=true:=by decide +kernel
def zne:List Sm:=[zD 1208]
theorem znd:zg z9 71 zc zne=true:=by decide +kernel
def znc:List Sm:=[zD 1212]
theorem znb:zg z9 71 zc znc=true:=by decide +kernel
def zna:List Sm:=[zD 1216]
theorem zm9:zg z9 71 zc zna=true:=by decide +kernel
def zm8:List Sm:=[zvX 1220]
theorem zm7:zg z9 71 zc zm8=true:=by decide +kernel
def zm6:List Sm:=[zvW 1224]
theorem zm5:zg z9 71 zc zm6=true:=by decide +kernel
def zm4:List Sm:=[zD 1228]
theorem zm3:zg z9 71 zc zm4=true:=by decide +kernel
def zm2:List Sm:=[zD 1232]
theorem zm1:zg z9 71 zc zm2=true:=by decide +kernel
def zm0:List Sm:=[zD 1236]
theorem zmZ:zg z9 71 zc zm0=true:=by decide +kernel
def zmY:List Sm:=[zD 1240]
theorem zmX:zg z9 71 zc zmY=true:=by decide +kernel
def zmW:List Sm:=[zD 1244]
theorem zmV:zg z9 71 zc zmW=true:=by decide +kernel
def zmU:List Sm:=[zD 1248]
theorem zmT:zg z9 71 zc zmU=true:=by decide +kernel
def zmS:List Sm:=[zD 1252]
theorem zmR:zg z9 71 zc zmS=true:=by decide +kernel
def zmQ:List Sm:=[zD 1256]
theorem zmP:zg z9 71 zc zmQ=true:=by decide +kernel
def zmO:List Sm:=[zD 1260]
theorem zmN:zg z9 71 zc zmO=true:=by decide +kernel
def zmM:List Sm:=[zD 1264]
theorem zmL:zg z9 71 zc zmM=true:=by decide +kernel
end Go.Ev.X
end
