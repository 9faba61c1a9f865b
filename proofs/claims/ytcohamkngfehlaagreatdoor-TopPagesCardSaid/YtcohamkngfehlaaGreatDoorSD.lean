import Derived.Test.YtcohamkngfehlaaGreatDoorSC
import Derived.Test.YtcohamkngfehlaaGreatDoorSSa
set_option linter.unusedSimpArgs false
set_option linter.unusedVariables false
set_option maxRecDepth 100000
noncomputable section
namespace Go.Ev.X
open Go Go.Ev Go.Proofs
def smT15:Tr (List Sm):=(.node (.node (.node (.node (.node (.node (.node (.node (.node (.node (.node .nil (.node (.node (.leaf zkd) .nil) .nil)) .nil) .nil) .nil) (.node (.node (.node (.node .nil (.node (.node (.leaf zkb) .nil) .nil)) .nil) .nil) .nil)) .nil) .nil) .nil) .nil) .nil) .nil)
theorem zpg:TrP (zab mc15 15 zd) smT15:=⟨⟨⟨⟨⟨⟨⟨⟨⟨⟨⟨trivial,⟨⟨(zc zkc),trivial⟩,trivial⟩⟩,trivial⟩,trivial⟩,trivial⟩,⟨⟨⟨⟨trivial,⟨⟨(zc zka),trivial⟩,trivial⟩⟩,trivial⟩,trivial⟩,trivial⟩⟩,trivial⟩,trivial⟩,trivial⟩,trivial⟩,trivial⟩,trivial⟩
def sm15:Hk:=zam mc15 (ssT smT15) 15 zd
def smT37:Tr (List Sm):=(.node (.node (.node (.node (.node (.node (.node (.node .nil (.node (.node (.node .nil (.node (.node (.leaf zj9) .nil) .nil)) .nil) .nil)) .nil) .nil) (.node (.node (.node (.node .nil (.node (.node .nil (.node (.node (.leaf zjZ) .nil) .nil)) .nil)) (.node (.node (.node .nil (.node (.node (.leaf zj5) .nil) .nil)) .nil) .nil)) .nil) .nil)) (.node (.node (.node (.node (.node (.node (.node (.node (.node (.leaf s37_8) .nil) .nil) .nil) .nil) .nil) (.node (.node (.node .nil (.node (.node (.leaf zj7) .nil) .nil)) .nil) .nil)) .nil) .nil) (.node (.node (.node .nil (.node (.node (.node .nil (.node (.node (.leaf zj3) .nil) .nil)) .nil) .nil)) .nil) .nil))) (.node (.node (.node (.node (.node (.node (.node (.node (.node (.node (.leaf s37_4) .nil) .nil) .nil) .nil) .nil) .nil) .nil) .nil) (.node (.node (.node (.node .nil (.node (.node .nil (.node (.node (.leaf zjR) .nil) .nil)) .nil)) .nil) .nil) .nil)) .nil)) (.node (.node (.node (.node (.node (.node (.node (.node (.node (.node (.node (.leaf s37_2) .nil) .nil) .nil) .nil) .nil) .nil) .nil) .nil) (.node (.node (.node (.node .nil (.node (.node .nil (.node (.node (.leaf zjV) .nil) .nil)) .nil)) .nil) .nil) .nil)) .nil) (.node (.node .nil (.node (.node (.node (.node .nil (.node (.node .nil (.node (.node (.leaf zjN) .nil) .nil)) .nil)) .nil) .nil) .nil)) .nil))) (.node (.node (.node (.node (.node (.node (.node (.node (.node (.node (.node (.node (.leaf s37_1) .nil) .nil) .nil) .nil) .nil) .nil) .nil) .nil) (.node (.node (.node (.node (.node (.node (.node (.node (.leaf s37_17) .nil) .nil) .nil) .nil) (.node (.node .nil (.node (.node (.leaf zjX) .nil) .nil)) .nil)) .nil) .nil) .nil)) (.node (.node (.node (.node (.node .nil (.node (.node (.node (.node (.leaf zmB) .nil) .nil) .nil) .nil)) .nil) .nil) .nil) .nil)) (.node (.node .nil (.node (.node (.node (.node .nil (.node (.node .nil (.node (.node (.leaf zjP) .nil) .nil)) .nil)) .nil) .nil) .nil)) .nil)) (.node (.node (.node (.node (.node (.node (.node .nil (.node (.node (.node (.node (.leaf zmC) .nil) .nil) .nil) .nil)) .nil) .nil) .nil) (.node (.node (.node (.node .nil (.node (.node .nil (.node (.node (.leaf zjT) .nil) .nil)) .nil)) .nil) .nil) .nil)) .nil) (.node (.node (.node .nil (.node (.node .nil (.node (.node (.node .nil (.node (.node (.leaf zj1) .nil) .nil)) .nil) .nil)) .nil)) (.node (.node (.node (.node .nil (.node (.node .nil (.node (.node (.leaf zjL) .nil) .nil)) .nil)) .nil) .nil) .nil)) .nil))))
theorem zpc:TrP (zab zaE 37 zd) smT37:=⟨⟨⟨⟨⟨⟨⟨⟨trivial,⟨⟨⟨trivial,⟨⟨(zc zj8),trivial⟩,trivial⟩⟩,trivial⟩,trivial⟩⟩,trivial⟩,trivial⟩,⟨⟨⟨⟨trivial,⟨⟨trivial,⟨⟨(zc zjY),trivial⟩,trivial⟩⟩,trivial⟩⟩,⟨⟨⟨trivial,⟨⟨(zc zj4),trivial⟩,trivial⟩⟩,trivial⟩,trivial⟩⟩,trivial⟩,trivial⟩⟩,⟨⟨⟨⟨⟨⟨⟨⟨⟨(zc zpI),trivial⟩,trivial⟩,trivial⟩,trivial⟩,trivial⟩,⟨⟨⟨trivial,⟨⟨(zc zj6),trivial⟩,trivial⟩⟩,trivial⟩,trivial⟩⟩,trivial⟩,trivial⟩,⟨⟨⟨trivial,⟨⟨⟨trivial,⟨⟨(zc zj2),trivial⟩,trivial⟩⟩,trivial⟩,trivial⟩⟩,trivial⟩,trivial⟩⟩⟩,⟨⟨⟨⟨⟨⟨⟨⟨⟨⟨(zc zpJ),trivial⟩,trivial⟩,trivial⟩,trivial⟩,trivial⟩,trivial⟩,trivial⟩,trivial⟩,⟨⟨⟨⟨trivial,⟨⟨trivial,⟨⟨(zc zjQ),trivial⟩,trivial⟩⟩,trivial⟩⟩,trivial⟩,trivial⟩,trivial⟩⟩,trivial⟩⟩,⟨⟨⟨⟨⟨⟨⟨⟨⟨⟨⟨(zc zpK),trivial⟩,trivial⟩,trivial⟩,trivial⟩,trivial⟩,trivial⟩,trivial⟩,trivial⟩,⟨⟨⟨⟨trivial,⟨⟨trivial,⟨⟨(zc zjU),trivial⟩,trivial⟩⟩,trivial⟩⟩,trivial⟩,trivial⟩,trivial⟩⟩,trivial⟩,⟨⟨trivial,⟨⟨⟨⟨trivial,⟨⟨trivial,⟨⟨(zc zjM),trivial⟩,trivial⟩⟩,trivial⟩⟩,trivial⟩,trivial⟩,trivial⟩⟩,trivial⟩⟩⟩,⟨⟨⟨⟨⟨⟨⟨⟨⟨⟨⟨⟨(zc zpL),trivial⟩,trivial⟩,trivial⟩,trivial⟩,trivial⟩,trivial⟩,trivial⟩,trivial⟩,⟨⟨⟨⟨⟨⟨⟨⟨(zc znW),trivial⟩,trivial⟩,trivial⟩,trivial⟩,⟨⟨trivial,⟨⟨(zc zjW),trivial⟩,trivial⟩⟩,trivial⟩⟩,trivial⟩,trivial⟩,trivial⟩⟩,⟨⟨⟨⟨⟨trivial,⟨⟨⟨⟨(zc zlE),trivial⟩,trivial⟩,trivial⟩,trivial⟩⟩,trivial⟩,trivial⟩,trivial⟩,trivial⟩⟩,⟨⟨trivial,⟨⟨⟨⟨trivial,⟨⟨trivial,⟨⟨(zc zjO),trivial⟩,trivial⟩⟩,trivial⟩⟩,trivial⟩,trivial⟩,trivial⟩⟩,trivial⟩⟩,⟨⟨⟨⟨⟨⟨⟨trivial,⟨⟨⟨⟨(zc zlF),trivial⟩,trivial⟩,trivial⟩,trivial⟩⟩,trivial⟩,trivial⟩,trivial⟩,⟨⟨⟨⟨trivial,⟨⟨trivial,⟨⟨(zc zjS),trivial⟩,trivial⟩⟩,trivial⟩⟩,trivial⟩,trivial⟩,trivial⟩⟩,trivial⟩,⟨⟨⟨trivial,⟨⟨trivial,⟨⟨⟨trivial,⟨⟨(zc zj0),trivial⟩,trivial⟩⟩,trivial⟩,trivial⟩⟩,trivial⟩⟩,⟨⟨⟨⟨trivial,⟨⟨trivial,⟨⟨(zc zjK),trivial⟩,trivial⟩⟩,trivial⟩⟩,trivial⟩,trivial⟩,trivial⟩⟩,trivial⟩⟩⟩⟩
def sm37:Hk:=zam zaE (ssT smT37) 37 zd
def smT48:Tr (List Sm):=(.node (.node (.node (.node (.node (.node (.node (.node (.node (.node (.node .nil (.node (.node (.leaf zjJ) .nil) .nil)) .nil) .nil) .nil) (.node (.node (.node (.node .nil (.node (.node (.leaf zjF) .nil) .nil)) .nil) .nil) .nil)) (.node (.node (.node (.node (.node (.node (.node (.leaf s48_32) .nil) .nil) .nil) .nil) .nil) .nil) (.node (.node (.node (.node .nil (.node (.node (.leaf zjp) .nil) .nil)) .nil) .nil) .nil))) (.node (.node .nil (.node (.node (.node (.node .nil (.node (.node (.leaf zjx) .nil) .nil)) .nil) .nil) .nil)) .nil)) (.node (.node (.node (.node .nil (.node (.node (.node .nil (.node (.node (.leaf zjf) .nil) .nil)) .nil) .nil)) (.node (.node (.node (.node .nil (.node (.node (.leaf zjB) .nil) .nil)) .nil) .nil) (.node (.node (.node .nil (.node (.node (.leaf zjb) .nil) .nil)) .nil) .nil))) (.node .nil (.node (.node (.node (.node .nil (.node (.node (.leaf zjl) .nil) .nil)) .nil) .nil) .nil))) (.node (.node .nil (.node (.node (.node (.node .nil (.node (.node (.leaf zjt) .nil) .nil)) .nil) .nil) .nil)) .nil))) (.node (.node (.node (.node (.node (.node (.node (.node .nil (.node (.node (.leaf zjH) .nil) .nil)) .nil) .nil) (.node (.node (.node .nil (.node (.node (.leaf zjh) .nil) .nil)) .nil) .nil)) (.node (.node (.node (.node .nil (.node (.node (.leaf zjD) .nil) .nil)) .nil) .nil) (.node (.node (.node .nil (.node (.node (.leaf zjd) .nil) .nil)) .nil) .nil))) (.node (.node (.node (.node (.node (.node (.node (.leaf s48_36) .nil) .nil) .nil) .nil) .nil) .nil) (.node (.node (.node (.node .nil (.node (.node (.leaf zjn) .nil) .nil)) .nil) .nil) .nil))) (.node (.node .nil (.node (.node (.node (.node .nil (.node (.node (.leaf zjv) .nil) .nil)) .nil) .nil) .nil)) .nil)) (.node (.node (.node .nil (.node (.node (.node (.node .nil (.node (.node (.leaf zjz) .nil) .nil)) .nil) .nil) .nil)) (.node .nil (.node (.node (.node (.node .nil (.node (.node (.leaf zjj) .nil) .nil)) .nil) .nil) .nil))) (.node (.node .nil (.node (.node (.node (.node .nil (.node (.node (.leaf zjr) .nil) .nil)) .nil) .nil) .nil)) (.node (.node (.node (.node (.node (.node (.node (.leaf s48_60) .nil) .nil) .nil) .nil) .nil) .nil) .nil))))) .nil) .nil)
theorem zpb:TrP (zab zaS 48 zd) smT48:=⟨⟨⟨⟨⟨⟨⟨⟨⟨⟨⟨trivial,⟨⟨(zc zjI),trivial⟩,trivial⟩⟩,trivial⟩,trivial⟩,trivial⟩,⟨⟨⟨⟨trivial,⟨⟨(zc zjE),trivial⟩,trivial⟩⟩,trivial⟩,trivial⟩,trivial⟩⟩,⟨⟨⟨⟨⟨⟨⟨(zc znV),trivial⟩,trivial⟩,trivial⟩,trivial⟩,trivial⟩,trivial⟩,⟨⟨⟨⟨trivial,⟨⟨(zc zjo),trivial⟩,trivial⟩⟩,trivial⟩,trivial⟩,trivial⟩⟩⟩,⟨⟨trivial,⟨⟨⟨⟨trivial,⟨⟨(zc zjw),trivial⟩,trivial⟩⟩,trivial⟩,trivial⟩,trivial⟩⟩,trivial⟩⟩,⟨⟨⟨⟨trivial,⟨⟨⟨trivial,⟨⟨(zc zje),trivial⟩,trivial⟩⟩,trivial⟩,trivial⟩⟩,⟨⟨⟨⟨trivial,⟨⟨(zc zjA),trivial⟩,trivial⟩⟩,trivial⟩,trivial⟩,⟨⟨⟨trivial,⟨⟨(zc zja),trivial⟩,trivial⟩⟩,trivial⟩,trivial⟩⟩⟩,⟨trivial,⟨⟨⟨⟨trivial,⟨⟨(zc zjk),trivial⟩,trivial⟩⟩,trivial⟩,trivial⟩,trivial⟩⟩⟩,⟨⟨trivial,⟨⟨⟨⟨trivial,⟨⟨(zc zjs),trivial⟩,trivial⟩⟩,trivial⟩,trivial⟩,trivial⟩⟩,trivial⟩⟩⟩,⟨⟨⟨⟨⟨⟨⟨⟨trivial,⟨⟨(zc zjG),trivial⟩,trivial⟩⟩,trivial⟩,trivial⟩,⟨⟨⟨trivial,⟨⟨(zc zjg),trivial⟩,trivial⟩⟩,trivial⟩,trivial⟩⟩,⟨⟨⟨⟨trivial,⟨⟨(zc zjC),trivial⟩,trivial⟩⟩,trivial⟩,trivial⟩,⟨⟨⟨trivial,⟨⟨(zc zjc),trivial⟩,trivial⟩⟩,trivial⟩,trivial⟩⟩⟩,⟨⟨⟨⟨⟨⟨⟨(zc znU),trivial⟩,trivial⟩,trivial⟩,trivial⟩,trivial⟩,trivial⟩,⟨⟨⟨⟨trivial,⟨⟨(zc zjm),trivial⟩,trivial⟩⟩,trivial⟩,trivial⟩,trivial⟩⟩⟩,⟨⟨trivial,⟨⟨⟨⟨trivial,⟨⟨(zc zju),trivial⟩,trivial⟩⟩,trivial⟩,trivial⟩,trivial⟩⟩,trivial⟩⟩,⟨⟨⟨trivial,⟨⟨⟨⟨trivial,⟨⟨(zc zjy),trivial⟩,trivial⟩⟩,trivial⟩,trivial⟩,trivial⟩⟩,⟨trivial,⟨⟨⟨⟨trivial,⟨⟨(zc zji),trivial⟩,trivial⟩⟩,trivial⟩,trivial⟩,trivial⟩⟩⟩,⟨⟨trivial,⟨⟨⟨⟨trivial,⟨⟨(zc zjq),trivial⟩,trivial⟩⟩,trivial⟩,trivial⟩,trivial⟩⟩,⟨⟨⟨⟨⟨⟨⟨(zc znT),trivial⟩,trivial⟩,trivial⟩,trivial⟩,trivial⟩,trivial⟩,trivial⟩⟩⟩⟩⟩,trivial⟩,trivial⟩
def sm48:Hk:=zam zaS (ssT smT48) 48 zd
def smT52:Tr (List Sm):=(.node (.node (.node (.node (.node (.node (.node (.node (.node (.node (.node .nil (.node (.node (.leaf zi9) .nil) .nil)) .nil) .nil) .nil) (.node (.node (.node (.node .nil (.node (.node (.leaf zi7) .nil) .nil)) .nil) .nil) .nil)) .nil) .nil) .nil) .nil) .nil) .nil)
theorem zpa:TrP (zab mc52 52 zd) smT52:=⟨⟨⟨⟨⟨⟨⟨⟨⟨⟨⟨trivial,⟨⟨(zc zi8),trivial⟩,trivial⟩⟩,trivial⟩,trivial⟩,trivial⟩,⟨⟨⟨⟨trivial,⟨⟨(zc zi6),trivial⟩,trivial⟩⟩,trivial⟩,trivial⟩,trivial⟩⟩,trivial⟩,trivial⟩,trivial⟩,trivial⟩,trivial⟩,trivial⟩
def sm52:Hk:=zam mc52 (ssT smT52) 52 zd
def smT72:Tr (List Sm):=(.node (.node (.node (.node (.node (.node (.node (.node (.node (.node (.node .nil (.node (.node (.leaf zi5) .nil) .nil)) .nil) .nil) (.node (.node (.node .nil (.node (.node (.leaf ziB) .nil) .nil)) .nil) .nil)) (.node (.node (.node (.node (.node (.node (.leaf s72_64) .nil) .nil) (.node (.node (.leaf ziZ) .nil) .nil)) .nil) .nil) (.node (.node (.node .nil (.node (.node (.leaf zh4) .nil) .nil)) .nil) .nil))) (.node (.node (.node (.node (.node (.node (.node (.leaf s72_32) .nil) .nil) .nil) .nil) .nil) (.node (.node (.node .nil (.node (.node (.leaf zik) .nil) .nil)) .nil) .nil)) (.node (.node (.node (.node (.node (.node (.leaf s72_96) .nil) .nil) (.node (.node (.leaf ziJ) .nil) .nil)) .nil) .nil) (.node (.node (.node .nil (.node (.node (.leaf zhO) .nil) .nil)) .nil) .nil)))) (.node (.node (.node .nil (.node (.node (.node .nil (.node (.node (.leaf zit) .nil) .nil)) .nil) .nil)) (.node (.node (.node (.node (.node (.node (.leaf s72_80) .nil) .nil) (.node (.node (.leaf ziR) .nil) .nil)) .nil) .nil) (.node (.node (.node .nil (.node (.node (.leaf zhW) .nil) .nil)) .nil) .nil))) (.node (.node (.node (.node (.node (.node (.node (.leaf s72_48) .nil) .nil) .nil) .nil) .nil) (.node (.node (.node .nil (.node (.node (.leaf zic) .nil) .nil)) .nil) .nil)) (.node (.node (.node (.node (.node (.node (.leaf zmx) .nil) .nil) .nil) .nil) .nil) (.node (.node (.node .nil (.node (.node (.leaf zhG) .nil) .nil)) .nil) .nil))))) (.node (.node (.node (.node (.node (.node (.node .nil (.node (.node (.leaf zi1) .nil) .nil)) .nil) .nil) (.node (.node (.node .nil (.node (.node (.leaf zix) .nil) .nil)) .nil) .nil)) (.node (.node (.node (.node (.node (.node (.leaf s72_72) .nil) .nil) (.node (.node (.leaf ziV) .nil) .nil)) .nil) .nil) (.node (.node (.node .nil (.node (.node (.leaf zh0) .nil) .nil)) .nil) .nil))) (.node (.node (.node (.node (.node (.node (.node (.leaf s72_40) .nil) .nil) .nil) .nil) .nil) (.node (.node (.node .nil (.node (.node (.leaf zig) .nil) .nil)) .nil) .nil)) (.node (.node (.node (.node (.node (.node (.leaf zmz) .nil) .nil) (.node (.node (.leaf ziF) .nil) .nil)) .nil) .nil) (.node (.node (.node .nil (.node (.node (.leaf zhK) .nil) .nil)) .nil) .nil)))) (.node (.node (.node .nil (.node (.node (.node .nil (.node (.node (.leaf zio) .nil) .nil)) .nil) .nil)) (.node (.node (.node (.node (.node (.node (.leaf s72_88) .nil) .nil) (.node (.node (.leaf ziN) .nil) .nil)) .nil) .nil) (.node (.node (.node .nil (.node (.node (.leaf zhS) .nil) .nil)) .nil) .nil))) (.node (.node (.node (.node (.node (.node (.node (.leaf s72_56) .nil) .nil) .nil) .nil) .nil) (.node (.node (.node .nil (.node (.node (.leaf zh8) .nil) .nil)) .nil) .nil)) (.node (.node (.node (.node (.node (.node (.leaf zmv) .nil) .nil) .nil) .nil) .nil) (.node (.node (.node .nil (.node (.node (.leaf zhC) .nil) .nil)) .nil) .nil)))))) (.node (.node (.node (.node (.node (.node (.node (.node .nil (.node (.node (.leaf zi3) .nil) .nil)) .nil) .nil) (.node (.node (.node .nil (.node (.node (.leaf ziz) .nil) .nil)) .nil) .nil)) (.node (.node (.node (.node (.node (.node (.leaf s72_68) .nil) .nil) (.node (.node (.leaf ziX) .nil) .nil)) .nil) .nil) (.node (.node (.node .nil (.node (.node (.leaf zh2) .nil) .nil)) .nil) .nil))) (.node (.node (.node (.node (.node (.node (.node (.leaf s72_36) .nil) .nil) .nil) .nil) .nil) (.node (.node (.node .nil (.node (.node (.leaf zii) .nil) .nil)) .nil) .nil)) (.node (.node (.node (.node (.node (.node (.leaf zmA) .nil) .nil) (.node (.node (.leaf ziH) .nil) .nil)) .nil) .nil) (.node (.node (.node .nil (.node (.node (.leaf zhM) .nil) .nil)) .nil) .nil)))) (.node (.node (.node .nil (.node (.node (.node .nil (.node (.node (.leaf zir) .nil) .nil)) .nil) .nil)) (.node (.node (.node (.node (.node (.node (.leaf s72_84) .nil) .nil) (.node (.node (.leaf ziP) .nil) .nil)) .nil) .nil) (.node (.node (.node .nil (.node (.node (.leaf zhU) .nil) .nil)) .nil) .nil))) (.node (.node (.node (.node (.node (.node (.node (.leaf s72_52) .nil) .nil) .nil) .nil) .nil) (.node (.node (.node .nil (.node (.node (.leaf zia) .nil) .nil)) .nil) .nil)) (.node (.node (.node (.node (.node (.node (.leaf zmw) .nil) .nil) .nil) .nil) .nil) (.node (.node (.node .nil (.node (.node (.leaf zhE) .nil) .nil)) .nil) .nil))))) (.node (.node (.node (.node .nil (.node (.node (.node .nil (.node (.node (.leaf ziv) .nil) .nil)) .nil) .nil)) (.node (.node (.node (.node (.node (.node (.leaf s72_76) .nil) .nil) (.node (.node (.leaf ziT) .nil) .nil)) .nil) .nil) (.node (.node (.node .nil (.node (.node (.leaf zhY) .nil) .nil)) .nil) .nil))) (.node (.node (.node (.node (.node (.node (.node (.leaf s72_44) .nil) .nil) .nil) .nil) .nil) (.node (.node (.node .nil (.node (.node (.leaf zie) .nil) .nil)) .nil) .nil)) (.node (.node (.node (.node (.node (.node (.leaf zmy) .nil) .nil) (.node (.node (.leaf ziD) .nil) .nil)) .nil) .nil) (.node (.node (.node .nil (.node (.node (.leaf zhI) .nil) .nil)) .nil) .nil)))) (.node (.node (.node .nil (.node (.node (.node .nil (.node (.node (.leaf zim) .nil) .nil)) .nil) .nil)) (.node (.node (.node (.node (.node (.node (.leaf s72_92) .nil) .nil) (.node (.node (.leaf ziL) .nil) .nil)) .nil) .nil) (.node (.node (.node .nil (.node (.node (.leaf zhQ) .nil) .nil)) .nil) .nil))) (.node (.node (.node (.node (.node (.node (.node (.leaf s72_60) .nil) .nil) .nil) .nil) .nil) (.node (.node (.node .nil (.node (.node (.leaf zh6) .nil) .nil)) .nil) .nil)) (.node (.node (.node (.node (.node (.node (.leaf zmu) .nil) .nil) .nil) .nil) .nil) (.node (.node (.node .nil (.node (.node (.leaf zhA) .nil) .nil)) .nil) .nil))))))) .nil) .nil)
theorem zo9:TrP (zab z4 72 zd) smT72:=⟨⟨⟨⟨⟨⟨⟨⟨⟨⟨⟨trivial,⟨⟨(zc zi4),trivial⟩,trivial⟩⟩,trivial⟩,trivial⟩,⟨⟨⟨trivial,⟨⟨(zc ziA),trivial⟩,trivial⟩⟩,trivial⟩,trivial⟩⟩,⟨⟨⟨⟨⟨⟨(zc znK),trivial⟩,trivial⟩,⟨⟨(zc ziY),trivial⟩,trivial⟩⟩,trivial⟩,trivial⟩,⟨⟨⟨trivial,⟨⟨(zc zh3),trivial⟩,trivial⟩⟩,trivial⟩,trivial⟩⟩⟩,⟨⟨⟨⟨⟨⟨⟨(zc znS),trivial⟩,trivial⟩,trivial⟩,trivial⟩,trivial⟩,⟨⟨⟨trivial,⟨⟨(zc zij),trivial⟩,trivial⟩⟩,trivial⟩,trivial⟩⟩,⟨⟨⟨⟨⟨⟨(zc znC),trivial⟩,trivial⟩,⟨⟨(zc ziI),trivial⟩,trivial⟩⟩,trivial⟩,trivial⟩,⟨⟨⟨trivial,⟨⟨(zc zhN),trivial⟩,trivial⟩⟩,trivial⟩,trivial⟩⟩⟩⟩,⟨⟨⟨trivial,⟨⟨⟨trivial,⟨⟨(zc zis),trivial⟩,trivial⟩⟩,trivial⟩,trivial⟩⟩,⟨⟨⟨⟨⟨⟨(zc znG),trivial⟩,trivial⟩,⟨⟨(zc ziQ),trivial⟩,trivial⟩⟩,trivial⟩,trivial⟩,⟨⟨⟨trivial,⟨⟨(zc zhV),trivial⟩,trivial⟩⟩,trivial⟩,trivial⟩⟩⟩,⟨⟨⟨⟨⟨⟨⟨(zc znO),trivial⟩,trivial⟩,trivial⟩,trivial⟩,trivial⟩,⟨⟨⟨trivial,⟨⟨(zc zib),trivial⟩,trivial⟩⟩,trivial⟩,trivial⟩⟩,⟨⟨⟨⟨⟨⟨(zc zlA),trivial⟩,trivial⟩,trivial⟩,trivial⟩,trivial⟩,⟨⟨⟨trivial,⟨⟨(zc zhF),trivial⟩,trivial⟩⟩,trivial⟩,trivial⟩⟩⟩⟩⟩,⟨⟨⟨⟨⟨⟨⟨trivial,⟨⟨(zc zi0),trivial⟩,trivial⟩⟩,trivial⟩,trivial⟩,⟨⟨⟨trivial,⟨⟨(zc ziw),trivial⟩,trivial⟩⟩,trivial⟩,trivial⟩⟩,⟨⟨⟨⟨⟨⟨(zc znI),trivial⟩,trivial⟩,⟨⟨(zc ziU),trivial⟩,trivial⟩⟩,trivial⟩,trivial⟩,⟨⟨⟨trivial,⟨⟨(zc zhZ),trivial⟩,trivial⟩⟩,trivial⟩,trivial⟩⟩⟩,⟨⟨⟨⟨⟨⟨⟨(zc znQ),trivial⟩,trivial⟩,trivial⟩,trivial⟩,trivial⟩,⟨⟨⟨trivial,⟨⟨(zc zif),trivial⟩,trivial⟩⟩,trivial⟩,trivial⟩⟩,⟨⟨⟨⟨⟨⟨(zc zlC),trivial⟩,trivial⟩,⟨⟨(zc ziE),trivial⟩,trivial⟩⟩,trivial⟩,trivial⟩,⟨⟨⟨trivial,⟨⟨(zc zhJ),trivial⟩,trivial⟩⟩,trivial⟩,trivial⟩⟩⟩⟩,⟨⟨⟨trivial,⟨⟨⟨trivial,⟨⟨(zc zin),trivial⟩,trivial⟩⟩,trivial⟩,trivial⟩⟩,⟨⟨⟨⟨⟨⟨(zc znE),trivial⟩,trivial⟩,⟨⟨(zc ziM),trivial⟩,trivial⟩⟩,trivial⟩,trivial⟩,⟨⟨⟨trivial,⟨⟨(zc zhR),trivial⟩,trivial⟩⟩,trivial⟩,trivial⟩⟩⟩,⟨⟨⟨⟨⟨⟨⟨(zc znM),trivial⟩,trivial⟩,trivial⟩,trivial⟩,trivial⟩,⟨⟨⟨trivial,⟨⟨(zc zh7),trivial⟩,trivial⟩⟩,trivial⟩,trivial⟩⟩,⟨⟨⟨⟨⟨⟨(zc zly),trivial⟩,trivial⟩,trivial⟩,trivial⟩,trivial⟩,⟨⟨⟨trivial,⟨⟨(zc zhB),trivial⟩,trivial⟩⟩,trivial⟩,trivial⟩⟩⟩⟩⟩⟩,⟨⟨⟨⟨⟨⟨⟨⟨trivial,⟨⟨(zc zi2),trivial⟩,trivial⟩⟩,trivial⟩,trivial⟩,⟨⟨⟨trivial,⟨⟨(zc ziy),trivial⟩,trivial⟩⟩,trivial⟩,trivial⟩⟩,⟨⟨⟨⟨⟨⟨(zc znJ),trivial⟩,trivial⟩,⟨⟨(zc ziW),trivial⟩,trivial⟩⟩,trivial⟩,trivial⟩,⟨⟨⟨trivial,⟨⟨(zc zh1),trivial⟩,trivial⟩⟩,trivial⟩,trivial⟩⟩⟩,⟨⟨⟨⟨⟨⟨⟨(zc znR),trivial⟩,trivial⟩,trivial⟩,trivial⟩,trivial⟩,⟨⟨⟨trivial,⟨⟨(zc zih),trivial⟩,trivial⟩⟩,trivial⟩,trivial⟩⟩,⟨⟨⟨⟨⟨⟨(zc zlD),trivial⟩,trivial⟩,⟨⟨(zc ziG),trivial⟩,trivial⟩⟩,trivial⟩,trivial⟩,⟨⟨⟨trivial,⟨⟨(zc zhL),trivial⟩,trivial⟩⟩,trivial⟩,trivial⟩⟩⟩⟩,⟨⟨⟨trivial,⟨⟨⟨trivial,⟨⟨(zc ziq),trivial⟩,trivial⟩⟩,trivial⟩,trivial⟩⟩,⟨⟨⟨⟨⟨⟨(zc znF),trivial⟩,trivial⟩,⟨⟨(zc ziO),trivial⟩,trivial⟩⟩,trivial⟩,trivial⟩,⟨⟨⟨trivial,⟨⟨(zc zhT),trivial⟩,trivial⟩⟩,trivial⟩,trivial⟩⟩⟩,⟨⟨⟨⟨⟨⟨⟨(zc znN),trivial⟩,trivial⟩,trivial⟩,trivial⟩,trivial⟩,⟨⟨⟨trivial,⟨⟨(zc zh9),trivial⟩,trivial⟩⟩,trivial⟩,trivial⟩⟩,⟨⟨⟨⟨⟨⟨(zc zlz),trivial⟩,trivial⟩,trivial⟩,trivial⟩,trivial⟩,⟨⟨⟨trivial,⟨⟨(zc zhD),trivial⟩,trivial⟩⟩,trivial⟩,trivial⟩⟩⟩⟩⟩,⟨⟨⟨⟨trivial,⟨⟨⟨trivial,⟨⟨(zc ziu),trivial⟩,trivial⟩⟩,trivial⟩,trivial⟩⟩,⟨⟨⟨⟨⟨⟨(zc znH),trivial⟩,trivial⟩,⟨⟨(zc ziS),trivial⟩,trivial⟩⟩,trivial⟩,trivial⟩,⟨⟨⟨trivial,⟨⟨(zc zhX),trivial⟩,trivial⟩⟩,trivial⟩,trivial⟩⟩⟩,⟨⟨⟨⟨⟨⟨⟨(zc znP),trivial⟩,trivial⟩,trivial⟩,trivial⟩,trivial⟩,⟨⟨⟨trivial,⟨⟨(zc zid),trivial⟩,trivial⟩⟩,trivial⟩,trivial⟩⟩,⟨⟨⟨⟨⟨⟨(zc zlB),trivial⟩,trivial⟩,⟨⟨(zc ziC),trivial⟩,trivial⟩⟩,trivial⟩,trivial⟩,⟨⟨⟨trivial,⟨⟨(zc zhH),trivial⟩,trivial⟩⟩,trivial⟩,trivial⟩⟩⟩⟩,⟨⟨⟨trivial,⟨⟨⟨trivial,⟨⟨(zc zil),trivial⟩,trivial⟩⟩,trivial⟩,trivial⟩⟩,⟨⟨⟨⟨⟨⟨(zc znD),trivial⟩,trivial⟩,⟨⟨(zc ziK),trivial⟩,trivial⟩⟩,trivial⟩,trivial⟩,⟨⟨⟨trivial,⟨⟨(zc zhP),trivial⟩,trivial⟩⟩,trivial⟩,trivial⟩⟩⟩,⟨⟨⟨⟨⟨⟨⟨(zc znL),trivial⟩,trivial⟩,trivial⟩,trivial⟩,trivial⟩,⟨⟨⟨trivial,⟨⟨(zc zh5),trivial⟩,trivial⟩⟩,trivial⟩,trivial⟩⟩,⟨⟨⟨⟨⟨⟨(zc zlx),trivial⟩,trivial⟩,trivial⟩,trivial⟩,trivial⟩,⟨⟨⟨trivial,⟨⟨(zc zhz),trivial⟩,trivial⟩⟩,trivial⟩,trivial⟩⟩⟩⟩⟩⟩⟩,trivial⟩,trivial⟩
def sm72:Hk:=zam z4 (ssT smT72) 72 zd
def smT101:Tr (List Sm):=(.node (.node (.node (.node (.node (.node (.node (.node .nil (.node (.node (.node .nil (.node (.node (.leaf zfO) .nil) .nil)) .nil) .nil)) .nil) (.node (.node .nil (.node (.node (.node .nil (.node (.node (.leaf zfK) .nil) .nil)) .nil) .nil)) .nil)) (.node (.node (.node .nil (.node (.node (.node .nil (.node (.node (.leaf zfM) .nil) .nil)) .nil) .nil)) .nil) .nil)) (.node (.node (.node (.node (.node (.node (.node (.node (.node (.leaf s101_8) .nil) .nil) .nil) .nil) .nil) (.node (.node (.node .nil (.node (.node (.leaf zfN) .nil) .nil)) .nil) .nil)) .nil) .nil) (.node (.node (.node .nil (.node (.node (.node .nil (.node (.node (.leaf zfL) .nil) .nil)) .nil) .nil)) .nil) .nil))) (.node (.node (.node (.node (.node (.node (.node (.node (.node (.node (.leaf s101_4) .nil) .nil) .nil) .nil) .nil) .nil) .nil) (.node (.node .nil (.node (.node (.node .nil (.node (.node (.leaf zfG) .nil) .nil)) .nil) .nil)) .nil)) .nil) .nil)) (.node (.node (.node (.node (.node (.node (.node (.node (.node (.node (.node (.leaf s101_2) .nil) .nil) .nil) .nil) .nil) .nil) .nil) (.node (.node .nil (.node (.node (.node .nil (.node (.node (.leaf zfI) .nil) .nil)) .nil) .nil)) .nil)) .nil) .nil) (.node (.node (.node .nil (.node (.node .nil (.node (.node (.node .nil (.node (.node (.leaf zfE) .nil) .nil)) .nil) .nil)) .nil)) .nil) .nil))) (.node (.node (.node (.node (.node (.node (.node (.node (.node (.node (.node (.node (.leaf s101_1) .nil) .nil) .nil) .nil) .nil) .nil) .nil) (.node (.node .nil (.node (.node (.node .nil (.node (.node (.leaf zfJ) .nil) .nil)) .nil) .nil)) .nil)) (.node (.node (.node (.node (.node (.node (.node (.node (.leaf zmD) .nil) .nil) .nil) .nil) .nil) .nil) .nil) .nil)) (.node (.node (.node (.node (.node .nil (.node (.node (.node (.node (.leaf zkf) .nil) .nil) .nil) .nil)) .nil) .nil) .nil) .nil)) (.node (.node (.node .nil (.node (.node .nil (.node (.node (.node .nil (.node (.node (.leaf zfF) .nil) .nil)) .nil) .nil)) .nil)) .nil) .nil)) (.node (.node (.node (.node (.node (.node (.node .nil (.node (.node (.node (.node (.leaf zkh) .nil) .nil) .nil) .nil)) .nil) .nil) (.node (.node .nil (.node (.node (.node .nil (.node (.node (.leaf zfH) .nil) .nil)) .nil) .nil)) .nil)) .nil) .nil) (.node (.node (.node .nil (.node (.node .nil (.node (.node (.node .nil (.node (.node (.leaf zfD) .nil) .nil)) .nil) .nil)) .nil)) .nil) .nil))))
theorem zny:TrP (zab jL 101 zd) smT101:=⟨⟨⟨⟨⟨⟨⟨⟨trivial,⟨⟨⟨trivial,⟨⟨(zc zgI),trivial⟩,trivial⟩⟩,trivial⟩,trivial⟩⟩,trivial⟩,⟨⟨trivial,⟨⟨⟨trivial,⟨⟨(zc zgE),trivial⟩,trivial⟩⟩,trivial⟩,trivial⟩⟩,trivial⟩⟩,⟨⟨⟨trivial,⟨⟨⟨trivial,⟨⟨(zc zgG),trivial⟩,trivial⟩⟩,trivial⟩,trivial⟩⟩,trivial⟩,trivial⟩⟩,⟨⟨⟨⟨⟨⟨⟨⟨⟨(zc znX),trivial⟩,trivial⟩,trivial⟩,trivial⟩,trivial⟩,⟨⟨⟨trivial,⟨⟨(zc zgH),trivial⟩,trivial⟩⟩,trivial⟩,trivial⟩⟩,trivial⟩,trivial⟩,⟨⟨⟨trivial,⟨⟨⟨trivial,⟨⟨(zc zgF),trivial⟩,trivial⟩⟩,trivial⟩,trivial⟩⟩,trivial⟩,trivial⟩⟩⟩,⟨⟨⟨⟨⟨⟨⟨⟨⟨⟨(zc znY),trivial⟩,trivial⟩,trivial⟩,trivial⟩,trivial⟩,trivial⟩,trivial⟩,⟨⟨trivial,⟨⟨⟨trivial,⟨⟨(zc zgA),trivial⟩,trivial⟩⟩,trivial⟩,trivial⟩⟩,trivial⟩⟩,trivial⟩,trivial⟩⟩,⟨⟨⟨⟨⟨⟨⟨⟨⟨⟨⟨(zc znZ),trivial⟩,trivial⟩,trivial⟩,trivial⟩,trivial⟩,trivial⟩,trivial⟩,⟨⟨trivial,⟨⟨⟨trivial,⟨⟨(zc zgC),trivial⟩,trivial⟩⟩,trivial⟩,trivial⟩⟩,trivial⟩⟩,trivial⟩,trivial⟩,⟨⟨⟨trivial,⟨⟨trivial,⟨⟨⟨trivial,⟨⟨(zc zgy),trivial⟩,trivial⟩⟩,trivial⟩,trivial⟩⟩,trivial⟩⟩,trivial⟩,trivial⟩⟩⟩,⟨⟨⟨⟨⟨⟨⟨⟨⟨⟨⟨⟨(zc zn0),trivial⟩,trivial⟩,trivial⟩,trivial⟩,trivial⟩,trivial⟩,trivial⟩,⟨⟨trivial,⟨⟨⟨trivial,⟨⟨(zc zgD),trivial⟩,trivial⟩⟩,trivial⟩,trivial⟩⟩,trivial⟩⟩,⟨⟨⟨⟨⟨⟨⟨⟨(zc zlG),trivial⟩,trivial⟩,trivial⟩,trivial⟩,trivial⟩,trivial⟩,trivial⟩,trivial⟩⟩,⟨⟨⟨⟨⟨trivial,⟨⟨⟨⟨(zc zke),trivial⟩,trivial⟩,trivial⟩,trivial⟩⟩,trivial⟩,trivial⟩,trivial⟩,trivial⟩⟩,⟨⟨⟨trivial,⟨⟨trivial,⟨⟨⟨trivial,⟨⟨(zc zgz),trivial⟩,trivial⟩⟩,trivial⟩,trivial⟩⟩,trivial⟩⟩,trivial⟩,trivial⟩⟩,⟨⟨⟨⟨⟨⟨⟨trivial,⟨⟨⟨⟨(zc zkg),trivial⟩,trivial⟩,trivial⟩,trivial⟩⟩,trivial⟩,trivial⟩,⟨⟨trivial,⟨⟨⟨trivial,⟨⟨(zc zgB),trivial⟩,trivial⟩⟩,trivial⟩,trivial⟩⟩,trivial⟩⟩,trivial⟩,trivial⟩,⟨⟨⟨trivial,⟨⟨trivial,⟨⟨⟨trivial,⟨⟨(zc zgx),trivial⟩,trivial⟩⟩,trivial⟩,trivial⟩⟩,trivial⟩⟩,trivial⟩,trivial⟩⟩⟩⟩
def zfx:Hk:=zam jL (ssT smT101) 101 zd
def smT243:Tr (List Sm):=(.node (.node (.node (.node .nil (.node (.node (.node (.node (.node .nil (.node (.node .nil (.node (.node (.leaf zfC) .nil) .nil)) .nil)) .nil) .nil) .nil) .nil)) .nil) .nil) .nil)
theorem znx:TrP (zab mc243 243 zd) smT243:=⟨⟨⟨⟨trivial,⟨⟨⟨⟨⟨trivial,⟨⟨trivial,⟨⟨(zc zgw),trivial⟩,trivial⟩⟩,trivial⟩⟩,trivial⟩,trivial⟩,trivial⟩,trivial⟩⟩,trivial⟩,trivial⟩,trivial⟩
def zeG:Hk:=zam mc243 (ssT smT243) 243 zd
def smT245:Tr (List Sm):=(.node (.node (.node (.node (.node (.node (.node (.node (.node .nil (.node (.node .nil (.node (.node (.leaf zfB) .nil) .nil)) .nil)) .nil) .nil) .nil) .nil) .nil) .nil) .nil) .nil)
theorem znw:TrP (zab mc245 245 zd) smT245:=⟨⟨⟨⟨⟨⟨⟨⟨⟨trivial,⟨⟨trivial,⟨⟨(zc zgv),trivial⟩,trivial⟩⟩,trivial⟩⟩,trivial⟩,trivial⟩,trivial⟩,trivial⟩,trivial⟩,trivial⟩,trivial⟩,trivial⟩
def zdX:Hk:=zam mc245 (ssT smT245) 245 zd
def smT291:Tr (List Sm):=(.node (.node (.node (.node (.node (.node (.node (.node (.node .nil (.node (.node .nil (.node (.node (.leaf zfA) .nil) .nil)) .nil)) .nil) .nil) .nil) .nil) .nil) .nil) .nil) .nil)
theorem znv:TrP (zab mc291 291 zd) smT291:=⟨⟨⟨⟨⟨⟨⟨⟨⟨trivial,⟨⟨trivial,⟨⟨(zc zgu),trivial⟩,trivial⟩⟩,trivial⟩⟩,trivial⟩,trivial⟩,trivial⟩,trivial⟩,trivial⟩,trivial⟩,trivial⟩,trivial⟩
def zcQ:Hk:=zam mc291 (ssT smT291) 291 zd
variable {E:Env}
def LenB (E:Env):Prop:=ze E Tryz.prog (fun G l h fa k=>bc (Nat.beq G 197) (lenX l h fa k) 1)
def AnyB (E:Env):Prop:=ze E Tryz.prog (fun G l h fa k=>bc (Nat.beq G 239) (anyX l h fa k) 1)
structure LenOk (E:Env):Prop where
 len:LenB E
 any:AnyB E
def jr (E:Env):Prop:=∀ E':Env,(∀ q,q≠7->E'.s q=E.s q)->LenOk E'
theorem jr.one (h:jr E):LenOk E:=h E (fun _ _=>rfl)
theorem yD {C:Nat->Option Hk} {a:Nat} {s:Hk} (hs:ze E Tryz.prog (fun G l h fa k=>bc (Nat.beq G a) (s l h fa k) 1))
  (hC:∀ F t,C F=some t->ze E Tryz.prog (fun G l h fa k=>bc (Nat.beq G F) (t l h fa k) 1)):∀ F t,bc (Nat.beq F a) (some s) (C F)=some t->ze E Tryz.prog (fun G l h fa k=>bc (Nat.beq G F) (t l h fa k) 1):=by
 intro F t h
 cases e:Nat.beq F a with
 | true=>
  rw[e]at h
  have h:some s=some t:=h
  cases h
  have e:F=a:=by simpa using e
  subst e
  exact hs
 | false=>rw[e]at h;exact hC F t h
theorem zq1:∀ F t,(none:Option Hk)=some t->ze E Tryz.prog (fun G l h fa k=>bc (Nat.beq G F) (t l h fa k) 1):=fun F t h=>by cases h
theorem hk0_ok (hlen:LenOk E):∀ F t,hk0 F=some t->ze E Tryz.prog (fun G l h fa k=>bc (Nat.beq G F) (t l h fa k) 1):=yD (C:=fun F=>(bc (Nat.beq F 239) (some anyX) none)) (hlen.len) (yD (C:=fun F=>none) (hlen.any) (zq1))
theorem cx0_ok (hlen:LenOk E):CxOk E Tryz.prog (zW Tryz.prog) cx0:=⟨zq,yv,fun F i h=>zbw h,hk0_ok hlen⟩
theorem jQ (hlen:LenOk E):ze E Tryz.prog zd:=jE (cx0_ok hlen) 100
theorem hk0_okA (hlen:jr E):∀ F t,hk0 F=some t->ze E Tryz.prog (fun G l h fa k=>bc (Nat.beq G F) (t l h fa k) 1):=hk0_ok hlen.one
def hkH0 (F:Nat):Option Hk:=(bc (Nat.beq F 15) (some sm15) (bc (Nat.beq F 37) (some sm37) (bc (Nat.beq F 48) (some sm48) (bc (Nat.beq F 52) (some sm52) (bc (Nat.beq F 72) (some sm72) (bc (Nat.beq F 101) (some zfx) (bc (Nat.beq F 243) (some zeG) (bc (Nat.beq F 245) (some zdX) (bc (Nat.beq F 291) (some zcQ) (hk0 F))))))))))
theorem zm9 (hlen:jr E):∀ F t,hkH0 F=some t->ze E Tryz.prog (fun G l h fa k=>bc (Nat.beq G F) (t l h fa k) 1):=yD (C:=fun F=>(bc (Nat.beq F 37) (some sm37) (bc (Nat.beq F 48) (some sm48) (bc (Nat.beq F 52) (some sm52) (bc (Nat.beq F 72) (some sm72) (bc (Nat.beq F 101) (some zfx) (bc (Nat.beq F 243) (some zeG) (bc (Nat.beq F 245) (some zdX) (bc (Nat.beq F 291) (some zcQ) (hk0 F)))))))))) (zcO (fun E' h=>jQ (hlen E' h)) zpg) (yD (C:=fun F=>(bc (Nat.beq F 48) (some sm48) (bc (Nat.beq F 52) (some sm52) (bc (Nat.beq F 72) (some sm72) (bc (Nat.beq F 101) (some zfx) (bc (Nat.beq F 243) (some zeG) (bc (Nat.beq F 245) (some zdX) (bc (Nat.beq F 291) (some zcQ) (hk0 F))))))))) (zcO (fun E' h=>jQ (hlen E' h)) zpc) (yD (C:=fun F=>(bc (Nat.beq F 52) (some sm52) (bc (Nat.beq F 72) (some sm72) (bc (Nat.beq F 101) (some zfx) (bc (Nat.beq F 243) (some zeG) (bc (Nat.beq F 245) (some zdX) (bc (Nat.beq F 291) (some zcQ) (hk0 F)))))))) (zcO (fun E' h=>jQ (hlen E' h)) zpb) (yD (C:=fun F=>(bc (Nat.beq F 72) (some sm72) (bc (Nat.beq F 101) (some zfx) (bc (Nat.beq F 243) (some zeG) (bc (Nat.beq F 245) (some zdX) (bc (Nat.beq F 291) (some zcQ) (hk0 F))))))) (zcO (fun E' h=>jQ (hlen E' h)) zpa) (yD (C:=fun F=>(bc (Nat.beq F 101) (some zfx) (bc (Nat.beq F 243) (some zeG) (bc (Nat.beq F 245) (some zdX) (bc (Nat.beq F 291) (some zcQ) (hk0 F)))))) (zcO (fun E' h=>jQ (hlen E' h)) zo9) (yD (C:=fun F=>(bc (Nat.beq F 243) (some zeG) (bc (Nat.beq F 245) (some zdX) (bc (Nat.beq F 291) (some zcQ) (hk0 F))))) (zcO (fun E' h=>jQ (hlen E' h)) zny) (yD (C:=fun F=>(bc (Nat.beq F 245) (some zdX) (bc (Nat.beq F 291) (some zcQ) (hk0 F)))) (zcO (fun E' h=>jQ (hlen E' h)) znx) (yD (C:=fun F=>(bc (Nat.beq F 291) (some zcQ) (hk0 F))) (zcO (fun E' h=>jQ (hlen E' h)) znw) (yD (C:=fun F=>(hk0 F)) (zcO (fun E' h=>jQ (hlen E' h)) znv) (hk0_okA hlen)))))))))
def cxH0:Cx:=⟨fnX,hkH0,20000⟩
def callH0:zr:=zco cxH0 100
theorem cxH0_ok (hlen:jr E):CxOk E Tryz.prog (zW Tryz.prog) cxH0:=⟨zq,yv,fun F i h=>zbw h,zm9 hlen⟩
theorem zoD (hlen:jr E):ze E Tryz.prog callH0:=jE (cxH0_ok hlen) 100
def rdPl:List Nat:=[1160,1161,1162,1163,1164,1165,1166,1167,1168,1169,1170,1171,1172,1173,1174,1175,1176,1177,1178,1179,1180,1181,1182,1183,1184,1185,1186,1187,1188,1189,1190,1191]
theorem rdPl_ok:y6 (fun a=>zl zaE 37 zd [rdS a]) rdPl=true:=by decide +kernel
def rdH:Hk:=rdX zaE (fun a=>inNs a rdPl) 37 callH0
def hkY0 (F:Nat):Option Hk:=(bc (Nat.beq F 37) (some rdH) (hkH0 F))
theorem zm4 (hlen:jr E):∀ F t,hkY0 F=some t->ze E Tryz.prog (fun G l h fa k=>bc (Nat.beq G F) (t l h fa k) 1):=yD (C:=fun F=>(hkH0 F)) (rdX_ok (fun E' h=>jQ (hlen E' h)) (zoD hlen) (zn7 rdPl_ok)) (zm9 hlen)
def cxY0:Cx:=⟨fnX,hkY0,20000⟩
def callY0:zr:=zco cxY0 100
theorem cxY0_ok (hlen:jr E):CxOk E Tryz.prog (zW Tryz.prog) cxY0:=⟨zq,yv,fun F i h=>zbw h,zm4 hlen⟩
theorem zoA (hlen:jr E):ze E Tryz.prog callY0:=jE (cxY0_ok hlen) 100
def gt279:Hk:=gotT xg279.body xg279.res callY0 279 20000
def hkG (F:Nat):Option Hk:=(bc (Nat.beq F 279) (some gt279) (hkY0 F))
theorem hkG_ok (hlen:jr E):∀ F t,hkG F=some t->ze E Tryz.prog (fun G l h fa k=>bc (Nat.beq G F) (t l h fa k) 1):=yD (C:=fun F=>(hkY0 F)) (got_ok zq yv (zoA hlen) Tryz.func279 Tryz.call279 cg279 (drB wg279)) (zm4 hlen)
def cxG:Cx:=⟨fnX,hkG,20000⟩
def callG:zr:=zco cxG 100
theorem cxG_ok (hlen:jr E):CxOk E Tryz.prog (zW Tryz.prog) cxG:=⟨zq,yv,fun F i h=>zbw h,hkG_ok hlen⟩
theorem zk4 (hlen:jr E):ze E Tryz.prog callG:=jE (cxG_ok hlen) 100
def ct0_154:Hk:=cntT xn154.body xn154.res callG 154 20000
def znh:Hk:=cntT xn164.body xn164.res callG 164 20000
def hkN0 (F:Nat):Option Hk:=(bc (Nat.beq F 154) (some ct0_154) (bc (Nat.beq F 164) (some znh) (hkG F)))
theorem zm8 (hlen:jr E):∀ F t,hkN0 F=some t->ze E Tryz.prog (fun G l h fa k=>bc (Nat.beq G F) (t l h fa k) 1):=yD (C:=fun F=>(bc (Nat.beq F 164) (some znh) (hkG F))) (zme zq yv (zk4 hlen) Tryz.func154 Tryz.call154 cn154 (drB wn154)) (yD (C:=fun F=>(hkG F)) (zme zq yv (zk4 hlen) Tryz.func164 Tryz.call164 cn164 (drB wn164)) (hkG_ok hlen))
def cxN0:Cx:=⟨fnX,hkN0,20000⟩
def callN0:zr:=zco cxN0 100
theorem cxN0_ok (hlen:jr E):CxOk E Tryz.prog (zW Tryz.prog) cxN0:=⟨zq,yv,fun F i h=>zbw h,zm8 hlen⟩
theorem zoB (hlen:jr E):ze E Tryz.prog callN0:=jE (cxN0_ok hlen) 100
def ct1_82:Hk:=cntT xn82.body xn82.res callN0 82 20000
def hkN1 (F:Nat):Option Hk:=(bc (Nat.beq F 82) (some ct1_82) (hkN0 F))
theorem zm7 (hlen:jr E):∀ F t,hkN1 F=some t->ze E Tryz.prog (fun G l h fa k=>bc (Nat.beq G F) (t l h fa k) 1):=yD (C:=fun F=>(hkN0 F)) (zme zq yv (zoB hlen) Tryz.func82 Tryz.call82 cn82 (drB wn82)) (zm8 hlen)
def cxN1:Cx:=⟨fnX,hkN1,20000⟩
def za0:zr:=zco cxN1 100
theorem cxN1_ok (hlen:jr E):CxOk E Tryz.prog (zW Tryz.prog) cxN1:=⟨zq,yv,fun F i h=>zbw h,zm7 hlen⟩
theorem js (hlen:jr E):ze E Tryz.prog za0:=jE (cxN1_ok hlen) 100
def zlw:zdl:=subT yc94 rs94 za0 94 20000 zbR
def zlv:zdl:=subT yc95 rs95 za0 95 20000 zbR
def zht (F:Nat):Option zdl:=(bc (Nat.beq F 94) (some zlw) (bc (Nat.beq F 95) (some zlv) none))
theorem zeE (hlen:jr E) {s:LS} {yid:Ev.P} {hand:zd8} (hh:zcq E Tryz.prog (zA E s yid) yid hand):SubA E Tryz.prog (zA E s yid) yid hand zht:=by
 intro G t h
 unfold zht at h
 cases e94':Nat.beq G 94 with
 | true=>
  rw[e94']at h
  have h:some zlw=some t:=h
  cases h
  have e:G=94:=by simpa using e94'
  subst e
  refine⟨Tryz.call94,fun l hp fa k hk hfa=>?_⟩
  have hy:=y94
  split at hy
  ·rename_i c hc
   unfold zlw at hk
   rw[<- hy]at hk
   exact zgq zq yv (js hlen) Tryz.func94 hc e94 s hand yid l hp fa k hh zaR hk hfa
  ·rename_i hc
   exact absurd hc (by have : Tryz.f94.body.isSome = true := by kernel_rfl
                       intro hn;rw[hn]at this;cases this)
 | false=>
 rw[e94']at h
 cases e95':Nat.beq G 95 with
 | true=>
  rw[e95']at h
  have h:some zlv=some t:=h
  cases h
  have e:G=95:=by simpa using e95'
  subst e
  refine⟨Tryz.call95,fun l hp fa k hk hfa=>?_⟩
  have hy:=y95
  split at hy
  ·rename_i c hc
   unfold zlv at hk
   rw[<- hy]at hk
   exact zgq zq yv (js hlen) Tryz.func95 hc e95 s hand yid l hp fa k hh zaR hk hfa
  ·rename_i hc
   exact absurd hc (by have : Tryz.f95.body.isSome = true := by kernel_rfl
                       intro hn;rw[hn]at this;cases this)
 | false=>
 rw[e95']at h
 cases h
def zl0:zdm:=itrT yc91 za0 91 20000 zht
def zg2:zdm:=itrT yc232 za0 232 20000 zht
def zg1:zdm:=itrT yc241 za0 241 20000 zht
def ze0 (F:Nat):Option zdm:=(bc (Nat.beq F 91) (some zl0) (bc (Nat.beq F 232) (some zg2) (bc (Nat.beq F 241) (some zg1) none)))
theorem zbV (hlen:jr E):znq E Tryz.prog ze0:=by
 intro G it h
 unfold ze0 at h
 cases e91':Nat.beq G 91 with
 | true=>
  rw[e91']at h
  have h:some zl0=some it:=h
  cases h
  have e:G=91:=by simpa using e91'
  subst e
  refine⟨Tryz.call91,fun s hand yid l hp fa k hh hk hfa=>?_⟩
  have hy:=y91
  split at hy
  ·rename_i c hc
   unfold zl0 at hk
   rw[<- hy]at hk
   exact zdD zq yv (js hlen) Tryz.func91 hc e91 s hand yid l hp fa k hh (zeE hlen hh) hk hfa
  ·rename_i hc
   exact absurd hc (by have : Tryz.f91.body.isSome = true := by kernel_rfl
                       intro hn;rw[hn]at this;cases this)
 | false=>
 rw[e91']at h
 cases e232':Nat.beq G 232 with
 | true=>
  rw[e232']at h
  have h:some zg2=some it:=h
  cases h
  have e:G=232:=by simpa using e232'
  subst e
  refine⟨Tryz.call232,fun s hand yid l hp fa k hh hk hfa=>?_⟩
  have hy:=y232
  split at hy
  ·rename_i c hc
   unfold zg2 at hk
   rw[<- hy]at hk
   exact zdD zq yv (js hlen) Tryz.func232 hc e232 s hand yid l hp fa k hh (zeE hlen hh) hk hfa
  ·rename_i hc
   exact absurd hc (by have : Tryz.f232.body.isSome = true := by kernel_rfl
                       intro hn;rw[hn]at this;cases this)
 | false=>
 rw[e232']at h
 cases e241':Nat.beq G 241 with
 | true=>
  rw[e241']at h
  have h:some zg1=some it:=h
  cases h
  have e:G=241:=by simpa using e241'
  subst e
  refine⟨Tryz.call241,fun s hand yid l hp fa k hh hk hfa=>?_⟩
  have hy:=y241
  split at hy
  ·rename_i c hc
   unfold zg1 at hk
   rw[<- hy]at hk
   exact zdD zq yv (js hlen) Tryz.func241 hc e241 s hand yid l hp fa k hh (zeE hlen hh) hk hfa
  ·rename_i hc
   exact absurd hc (by have : Tryz.f241.body.isSome = true := by kernel_rfl
                       intro hn;rw[hn]at this;cases this)
 | false=>
 rw[e241']at h
 cases h
def zlJ:Hk:=rfnT yc24 rs24 za0 24 20000 ze0
theorem zn5 (hlen:jr E):ze E Tryz.prog (fun G l h fa k=>bc (Nat.beq G 24) (zlJ l h fa k) 1):=by
 have hy:=y24
 split at hy
 ·rename_i c hc
  unfold zlJ
  rw[<- hy]
  exact zdt zq yv (js hlen) (zbV hlen) Tryz.func24 Tryz.call24 hc e24
 ·rename_i hc
  exact absurd hc (by have : Tryz.f24.body.isSome = true := by kernel_rfl
                      intro hn;rw[hn]at this;cases this)
def zgK:Hk:=rfnT yc71 rs71 za0 71 20000 ze0
theorem zn4 (hlen:jr E):ze E Tryz.prog (fun G l h fa k=>bc (Nat.beq G 71) (zgK l h fa k) 1):=by
 have hy:=y71
 split at hy
 ·rename_i c hc
  unfold zgK
  rw[<- hy]
  exact zdt zq yv (js hlen) (zbV hlen) Tryz.func71 Tryz.call71 hc e71
 ·rename_i hc
  exact absurd hc (by have : Tryz.f71.body.isSome = true := by kernel_rfl
                      intro hn;rw[hn]at this;cases this)
def zeI:Hk:=rfnT yc80 rs80 za0 80 20000 ze0
theorem zn3 (hlen:jr E):ze E Tryz.prog (fun G l h fa k=>bc (Nat.beq G 80) (zeI l h fa k) 1):=by
 have hy:=y80
 split at hy
 ·rename_i c hc
  unfold zeI
  rw[<- hy]
  exact zdt zq yv (js hlen) (zbV hlen) Tryz.func80 Tryz.call80 hc e80
 ·rename_i hc
  exact absurd hc (by have : Tryz.f80.body.isSome = true := by kernel_rfl
                      intro hn;rw[hn]at this;cases this)
def zdu:Hk:=rfnT yc84 rs84 za0 84 20000 ze0
theorem zn2 (hlen:jr E):ze E Tryz.prog (fun G l h fa k=>bc (Nat.beq G 84) (zdu l h fa k) 1):=by
 have hy:=y84
 split at hy
 ·rename_i c hc
  unfold zdu
  rw[<- hy]
  exact zdt zq yv (js hlen) (zbV hlen) Tryz.func84 Tryz.call84 hc e84
 ·rename_i hc
  exact absurd hc (by have : Tryz.f84.body.isSome = true := by kernel_rfl
                      intro hn;rw[hn]at this;cases this)
def zbp:Hk:=rfnT yc170 rs170 za0 170 20000 ze0
theorem zlK (hlen:jr E):ze E Tryz.prog (fun G l h fa k=>bc (Nat.beq G 170) (zbp l h fa k) 1):=by
 have hy:=y170
 split at hy
 ·rename_i c hc
  unfold zbp
  rw[<- hy]
  exact zdt zq yv (js hlen) (zbV hlen) Tryz.func170 Tryz.call170 hc e170
 ·rename_i hc
  exact absurd hc (by have : Tryz.f170.body.isSome = true := by kernel_rfl
                      intro hn;rw[hn]at this;cases this)
def hkR0 (F:Nat):Option Hk:=(bc (Nat.beq F 24) (some zlJ) (bc (Nat.beq F 71) (some zgK) (bc (Nat.beq F 80) (some zeI) (bc (Nat.beq F 84) (some zdu) (bc (Nat.beq F 170) (some zbp) (hkN1 F))))))
theorem zm6 (hlen:jr E):∀ F t,hkR0 F=some t->ze E Tryz.prog (fun G l h fa k=>bc (Nat.beq G F) (t l h fa k) 1):=yD (C:=fun F=>(bc (Nat.beq F 71) (some zgK) (bc (Nat.beq F 80) (some zeI) (bc (Nat.beq F 84) (some zdu) (bc (Nat.beq F 170) (some zbp) (hkN1 F)))))) (zn5 hlen) (yD (C:=fun F=>(bc (Nat.beq F 80) (some zeI) (bc (Nat.beq F 84) (some zdu) (bc (Nat.beq F 170) (some zbp) (hkN1 F))))) (zn4 hlen) (yD (C:=fun F=>(bc (Nat.beq F 84) (some zdu) (bc (Nat.beq F 170) (some zbp) (hkN1 F)))) (zn3 hlen) (yD (C:=fun F=>(bc (Nat.beq F 170) (some zbp) (hkN1 F))) (zn2 hlen) (yD (C:=fun F=>(hkN1 F)) (zlK hlen) (zm7 hlen)))))
def cxR0:Cx:=⟨fnX,hkR0,20000⟩
def zcG:zr:=zco cxR0 100
theorem cxR0_ok (hlen:jr E):CxOk E Tryz.prog (zW Tryz.prog) cxR0:=⟨zq,yv,fun F i h=>zbw h,zm6 hlen⟩
theorem zaN (hlen:jr E):ze E Tryz.prog zcG:=jE (cxR0_ok hlen) 100
def zlu:zdl:=subT yc94 rs94 zcG 94 20000 zbR
def zlt:zdl:=subT yc95 rs95 zcG 95 20000 zbR
def zhs (F:Nat):Option zdl:=(bc (Nat.beq F 94) (some zlu) (bc (Nat.beq F 95) (some zlt) none))
theorem zeD (hlen:jr E) {s:LS} {yid:Ev.P} {hand:zd8} (hh:zcq E Tryz.prog (zA E s yid) yid hand):SubA E Tryz.prog (zA E s yid) yid hand zhs:=by
 intro G t h
 unfold zhs at h
 cases e94':Nat.beq G 94 with
 | true=>
  rw[e94']at h
  have h:some zlu=some t:=h
  cases h
  have e:G=94:=by simpa using e94'
  subst e
  refine⟨Tryz.call94,fun l hp fa k hk hfa=>?_⟩
  have hy:=y94
  split at hy
  ·rename_i c hc
   unfold zlu at hk
   rw[<- hy]at hk
   exact zgq zq yv (zaN hlen) Tryz.func94 hc e94 s hand yid l hp fa k hh zaR hk hfa
  ·rename_i hc
   exact absurd hc (by have : Tryz.f94.body.isSome = true := by kernel_rfl
                       intro hn;rw[hn]at this;cases this)
 | false=>
 rw[e94']at h
 cases e95':Nat.beq G 95 with
 | true=>
  rw[e95']at h
  have h:some zlt=some t:=h
  cases h
  have e:G=95:=by simpa using e95'
  subst e
  refine⟨Tryz.call95,fun l hp fa k hk hfa=>?_⟩
  have hy:=y95
  split at hy
  ·rename_i c hc
   unfold zlt at hk
   rw[<- hy]at hk
   exact zgq zq yv (zaN hlen) Tryz.func95 hc e95 s hand yid l hp fa k hh zaR hk hfa
  ·rename_i hc
   exact absurd hc (by have : Tryz.f95.body.isSome = true := by kernel_rfl
                       intro hn;rw[hn]at this;cases this)
 | false=>
 rw[e95']at h
 cases h
def zlZ:zdm:=itrT yc91 zcG 91 20000 zhs
def zg0:zdm:=itrT yc232 zcG 232 20000 zhs
def zgZ:zdm:=itrT yc241 zcG 241 20000 zhs
def itrX1 (F:Nat):Option zdm:=(bc (Nat.beq F 91) (some zlZ) (bc (Nat.beq F 232) (some zg0) (bc (Nat.beq F 241) (some zgZ) none)))
theorem zqP (hlen:jr E):znq E Tryz.prog itrX1:=by
 intro G it h
 unfold itrX1 at h
 cases e91':Nat.beq G 91 with
 | true=>
  rw[e91']at h
  have h:some zlZ=some it:=h
  cases h
  have e:G=91:=by simpa using e91'
  subst e
  refine⟨Tryz.call91,fun s hand yid l hp fa k hh hk hfa=>?_⟩
  have hy:=y91
  split at hy
  ·rename_i c hc
   unfold zlZ at hk
   rw[<- hy]at hk
   exact zdD zq yv (zaN hlen) Tryz.func91 hc e91 s hand yid l hp fa k hh (zeD hlen hh) hk hfa
  ·rename_i hc
   exact absurd hc (by have : Tryz.f91.body.isSome = true := by kernel_rfl
                       intro hn;rw[hn]at this;cases this)
 | false=>
 rw[e91']at h
 cases e232':Nat.beq G 232 with
 | true=>
  rw[e232']at h
  have h:some zg0=some it:=h
  cases h
  have e:G=232:=by simpa using e232'
  subst e
  refine⟨Tryz.call232,fun s hand yid l hp fa k hh hk hfa=>?_⟩
  have hy:=y232
  split at hy
  ·rename_i c hc
   unfold zg0 at hk
   rw[<- hy]at hk
   exact zdD zq yv (zaN hlen) Tryz.func232 hc e232 s hand yid l hp fa k hh (zeD hlen hh) hk hfa
  ·rename_i hc
   exact absurd hc (by have : Tryz.f232.body.isSome = true := by kernel_rfl
                       intro hn;rw[hn]at this;cases this)
 | false=>
 rw[e232']at h
 cases e241':Nat.beq G 241 with
 | true=>
  rw[e241']at h
  have h:some zgZ=some it:=h
  cases h
  have e:G=241:=by simpa using e241'
  subst e
  refine⟨Tryz.call241,fun s hand yid l hp fa k hh hk hfa=>?_⟩
  have hy:=y241
  split at hy
  ·rename_i c hc
   unfold zgZ at hk
   rw[<- hy]at hk
   exact zdD zq yv (zaN hlen) Tryz.func241 hc e241 s hand yid l hp fa k hh (zeD hlen hh) hk hfa
  ·rename_i hc
   exact absurd hc (by have : Tryz.f241.body.isSome = true := by kernel_rfl
                       intro hn;rw[hn]at this;cases this)
 | false=>
 rw[e241']at h
 cases h
def zlI:Hk:=rfnT yc83 rs83 zcG 83 20000 itrX1
theorem zn1 (hlen:jr E):ze E Tryz.prog (fun G l h fa k=>bc (Nat.beq G 83) (zlI l h fa k) 1):=by
 have hy:=y83
 split at hy
 ·rename_i c hc
  unfold zlI
  rw[<- hy]
  exact zdt zq yv (zaN hlen) (zqP hlen) Tryz.func83 Tryz.call83 hc e83
 ·rename_i hc
  exact absurd hc (by have : Tryz.f83.body.isSome = true := by kernel_rfl
                      intro hn;rw[hn]at this;cases this)
def hkR1 (F:Nat):Option Hk:=(bc (Nat.beq F 83) (some zlI) (hkR0 F))
theorem zm5 (hlen:jr E):∀ F t,hkR1 F=some t->ze E Tryz.prog (fun G l h fa k=>bc (Nat.beq G F) (t l h fa k) 1):=yD (C:=fun F=>(hkR0 F)) (zn1 hlen) (zm6 hlen)
def cxR1:Cx:=⟨fnX,hkR1,20000⟩
def zmi:zr:=zco cxR1 100
theorem zng (hlen:jr E):CxOk E Tryz.prog (zW Tryz.prog) cxR1:=⟨zq,yv,fun F i h=>zbw h,zm5 hlen⟩
theorem zge (hlen:jr E):ze E Tryz.prog zmi:=jE (zng hlen) 100
def df13:Hk:=dfnT x13.body x13.res zmi (dcallT cxR1 zmi) 13 20000
def hk1 (F:Nat):Option Hk:=(bc (Nat.beq F 13) (some df13) (hkR1 F))
theorem hk1_ok (hlen:jr E):∀ F t,hk1 F=some t->ze E Tryz.prog (fun G l h fa k=>bc (Nat.beq G F) (t l h fa k) 1):=yD (C:=fun F=>(hkR1 F)) (dfn_ok zq yv (zge hlen) (zou (zng hlen) (zge hlen)) Tryz.func13 Tryz.call13 cx13 (drB wx13)) (zm5 hlen)
def cx1:Cx:=⟨fnX,hk1,20000⟩
def zb2:zr:=zco cx1 100
theorem zmc (hlen:jr E):CxOk E Tryz.prog (zW Tryz.prog) cx1:=⟨zq,yv,fun F i h=>zbw h,hk1_ok hlen⟩
theorem zrI (hlen:jr E):ze E Tryz.prog zb2:=jE (zmc hlen) 100
end Go.Ev.X
end
