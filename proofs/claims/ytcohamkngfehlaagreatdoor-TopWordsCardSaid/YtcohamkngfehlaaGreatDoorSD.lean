import Derived.Test.YtcohamkngfehlaaGreatDoorSC
import Derived.Test.YtcohamkngfehlaaGreatDoorSSa
set_option linter.unusedSimpArgs false
set_option linter.unusedVariables false
set_option maxRecDepth 100000
noncomputable section
namespace Go.Ev.X
open Go Go.Ev Go.Proofs
def smT15:Tr (List Sm):=(.node (.node (.node (.node (.node (.node (.node (.node (.node (.node (.node .nil (.node (.node (.leaf zji) .nil) .nil)) .nil) .nil) .nil) (.node (.node (.node (.node .nil (.node (.node (.leaf zjg) .nil) .nil)) .nil) .nil) .nil)) .nil) .nil) .nil) .nil) .nil) .nil)
theorem zog:TrP (zab mc15 15 zf) smT15:=⟨⟨⟨⟨⟨⟨⟨⟨⟨⟨⟨trivial,⟨⟨(zc zjh),trivial⟩,trivial⟩⟩,trivial⟩,trivial⟩,trivial⟩,⟨⟨⟨⟨trivial,⟨⟨(zc zjf),trivial⟩,trivial⟩⟩,trivial⟩,trivial⟩,trivial⟩⟩,trivial⟩,trivial⟩,trivial⟩,trivial⟩,trivial⟩,trivial⟩
def sm15:Hk:=jW mc15 (ssT smT15) 15 zf
def smT19:Tr (List Sm):=(.node (.node (.node (.node (.node (.node (.node (.node (.node (.node (.node .nil (.node (.node (.leaf zje) .nil) .nil)) .nil) .nil) .nil) .nil) .nil) .nil) .nil) .nil) .nil) .nil)
theorem zof:TrP (zab mc19 19 zf) smT19:=⟨⟨⟨⟨⟨⟨⟨⟨⟨⟨⟨trivial,⟨⟨(zc zjd),trivial⟩,trivial⟩⟩,trivial⟩,trivial⟩,trivial⟩,trivial⟩,trivial⟩,trivial⟩,trivial⟩,trivial⟩,trivial⟩,trivial⟩
def sm19:Hk:=jW mc19 (ssT smT19) 19 zf
def smT37:Tr (List Sm):=(.node (.node (.node (.node (.node .nil (.node (.node (.node (.node .nil (.node (.node .nil (.node (.node (.leaf zjc) .nil) .nil)) .nil)) .nil) .nil) .nil)) (.node (.node (.node (.node (.node (.node (.node (.node (.node (.leaf s37_8) .nil) .nil) .nil) .nil) .nil) .nil) .nil) .nil) .nil)) (.node (.node (.node (.node (.node (.node (.node (.node (.node (.node (.leaf s37_4) .nil) .nil) .nil) .nil) .nil) .nil) .nil) .nil) (.node (.node (.node (.node .nil (.node (.node .nil (.node (.node (.leaf zi4) .nil) .nil)) .nil)) .nil) .nil) .nil)) .nil)) (.node (.node (.node (.node (.node (.node (.node (.node (.node (.node (.node (.leaf s37_2) .nil) .nil) .nil) .nil) .nil) .nil) .nil) .nil) (.node (.node (.node (.node .nil (.node (.node .nil (.node (.node (.leaf zi8) .nil) .nil)) .nil)) .nil) .nil) .nil)) .nil) (.node (.node .nil (.node (.node (.node (.node .nil (.node (.node .nil (.node (.node (.leaf zi0) .nil) .nil)) .nil)) .nil) .nil) .nil)) .nil))) (.node (.node (.node (.node (.node (.node (.node (.node (.node (.node (.node (.node (.leaf s37_1) .nil) .nil) .nil) .nil) .nil) .nil) .nil) .nil) (.node (.node (.node (.node (.node (.node (.node (.node (.leaf s37_17) .nil) .nil) .nil) .nil) (.node (.node .nil (.node (.node (.leaf zja) .nil) .nil)) .nil)) .nil) .nil) .nil)) (.node (.node (.node (.node (.node .nil (.node (.node (.node (.node (.leaf zlJ) .nil) .nil) .nil) .nil)) .nil) .nil) .nil) .nil)) (.node (.node .nil (.node (.node (.node (.node .nil (.node (.node .nil (.node (.node (.leaf zi2) .nil) .nil)) .nil)) .nil) .nil) .nil)) .nil)) (.node (.node (.node .nil (.node (.node (.node (.node .nil (.node (.node .nil (.node (.node (.leaf zi6) .nil) .nil)) .nil)) .nil) .nil) .nil)) .nil) (.node (.node .nil (.node (.node (.node (.node .nil (.node (.node .nil (.node (.node (.leaf ziY) .nil) .nil)) .nil)) .nil) .nil) .nil)) .nil))))
theorem zob:TrP (zab zb8 37 zf) smT37:=⟨⟨⟨⟨⟨trivial,⟨⟨⟨⟨trivial,⟨⟨trivial,⟨⟨(zc zjb),trivial⟩,trivial⟩⟩,trivial⟩⟩,trivial⟩,trivial⟩,trivial⟩⟩,⟨⟨⟨⟨⟨⟨⟨⟨⟨(zc zoI),trivial⟩,trivial⟩,trivial⟩,trivial⟩,trivial⟩,trivial⟩,trivial⟩,trivial⟩,trivial⟩⟩,⟨⟨⟨⟨⟨⟨⟨⟨⟨⟨(zc zoJ),trivial⟩,trivial⟩,trivial⟩,trivial⟩,trivial⟩,trivial⟩,trivial⟩,trivial⟩,⟨⟨⟨⟨trivial,⟨⟨trivial,⟨⟨(zc zi3),trivial⟩,trivial⟩⟩,trivial⟩⟩,trivial⟩,trivial⟩,trivial⟩⟩,trivial⟩⟩,⟨⟨⟨⟨⟨⟨⟨⟨⟨⟨⟨(zc zoK),trivial⟩,trivial⟩,trivial⟩,trivial⟩,trivial⟩,trivial⟩,trivial⟩,trivial⟩,⟨⟨⟨⟨trivial,⟨⟨trivial,⟨⟨(zc zi7),trivial⟩,trivial⟩⟩,trivial⟩⟩,trivial⟩,trivial⟩,trivial⟩⟩,trivial⟩,⟨⟨trivial,⟨⟨⟨⟨trivial,⟨⟨trivial,⟨⟨(zc ziZ),trivial⟩,trivial⟩⟩,trivial⟩⟩,trivial⟩,trivial⟩,trivial⟩⟩,trivial⟩⟩⟩,⟨⟨⟨⟨⟨⟨⟨⟨⟨⟨⟨⟨(zc zoL),trivial⟩,trivial⟩,trivial⟩,trivial⟩,trivial⟩,trivial⟩,trivial⟩,trivial⟩,⟨⟨⟨⟨⟨⟨⟨⟨(zc zm0),trivial⟩,trivial⟩,trivial⟩,trivial⟩,⟨⟨trivial,⟨⟨(zc zi9),trivial⟩,trivial⟩⟩,trivial⟩⟩,trivial⟩,trivial⟩,trivial⟩⟩,⟨⟨⟨⟨⟨trivial,⟨⟨⟨⟨(zc zkP),trivial⟩,trivial⟩,trivial⟩,trivial⟩⟩,trivial⟩,trivial⟩,trivial⟩,trivial⟩⟩,⟨⟨trivial,⟨⟨⟨⟨trivial,⟨⟨trivial,⟨⟨(zc zi1),trivial⟩,trivial⟩⟩,trivial⟩⟩,trivial⟩,trivial⟩,trivial⟩⟩,trivial⟩⟩,⟨⟨⟨trivial,⟨⟨⟨⟨trivial,⟨⟨trivial,⟨⟨(zc zi5),trivial⟩,trivial⟩⟩,trivial⟩⟩,trivial⟩,trivial⟩,trivial⟩⟩,trivial⟩,⟨⟨trivial,⟨⟨⟨⟨trivial,⟨⟨trivial,⟨⟨(zc ziX),trivial⟩,trivial⟩⟩,trivial⟩⟩,trivial⟩,trivial⟩,trivial⟩⟩,trivial⟩⟩⟩⟩
def sm37:Hk:=jW zb8 (ssT smT37) 37 zf
def smT48:Tr (List Sm):=(.node (.node (.node (.node (.node (.node (.node (.node (.node (.node (.node .nil (.node (.node (.leaf ziW) .nil) .nil)) .nil) .nil) .nil) (.node (.node (.node (.node .nil (.node (.node (.leaf ziU) .nil) .nil)) .nil) .nil) .nil)) (.node (.node (.node (.node (.node (.node (.node (.leaf s48_32) .nil) .nil) .nil) .nil) .nil) .nil) .nil)) .nil) (.node (.node (.node (.node .nil (.node (.node (.node .nil (.node (.node (.leaf ziQ) .nil) .nil)) .nil) .nil)) (.node .nil (.node (.node (.node .nil (.node (.node (.leaf ziM) .nil) .nil)) .nil) .nil))) .nil) .nil)) (.node (.node (.node (.node (.node .nil (.node (.node (.node .nil (.node (.node (.leaf ziS) .nil) .nil)) .nil) .nil)) (.node .nil (.node (.node (.node .nil (.node (.node (.leaf ziO) .nil) .nil)) .nil) .nil))) (.node (.node (.node (.node (.node (.node (.node (.leaf s48_36) .nil) .nil) .nil) .nil) .nil) .nil) .nil)) .nil) (.node .nil (.node .nil (.node (.node (.node (.node (.node (.node (.node (.leaf s48_60) .nil) .nil) .nil) .nil) .nil) .nil) .nil))))) .nil) .nil)
theorem zoa:TrP (zab ze3 48 zf) smT48:=⟨⟨⟨⟨⟨⟨⟨⟨⟨⟨⟨trivial,⟨⟨(zc ziV),trivial⟩,trivial⟩⟩,trivial⟩,trivial⟩,trivial⟩,⟨⟨⟨⟨trivial,⟨⟨(zc ziT),trivial⟩,trivial⟩⟩,trivial⟩,trivial⟩,trivial⟩⟩,⟨⟨⟨⟨⟨⟨⟨(zc zmZ),trivial⟩,trivial⟩,trivial⟩,trivial⟩,trivial⟩,trivial⟩,trivial⟩⟩,trivial⟩,⟨⟨⟨⟨trivial,⟨⟨⟨trivial,⟨⟨(zc ziP),trivial⟩,trivial⟩⟩,trivial⟩,trivial⟩⟩,⟨trivial,⟨⟨⟨trivial,⟨⟨(zc ziL),trivial⟩,trivial⟩⟩,trivial⟩,trivial⟩⟩⟩,trivial⟩,trivial⟩⟩,⟨⟨⟨⟨⟨trivial,⟨⟨⟨trivial,⟨⟨(zc ziR),trivial⟩,trivial⟩⟩,trivial⟩,trivial⟩⟩,⟨trivial,⟨⟨⟨trivial,⟨⟨(zc ziN),trivial⟩,trivial⟩⟩,trivial⟩,trivial⟩⟩⟩,⟨⟨⟨⟨⟨⟨⟨(zc zmY),trivial⟩,trivial⟩,trivial⟩,trivial⟩,trivial⟩,trivial⟩,trivial⟩⟩,trivial⟩,⟨trivial,⟨trivial,⟨⟨⟨⟨⟨⟨⟨(zc zmX),trivial⟩,trivial⟩,trivial⟩,trivial⟩,trivial⟩,trivial⟩,trivial⟩⟩⟩⟩⟩,trivial⟩,trivial⟩
def sm48:Hk:=jW ze3 (ssT smT48) 48 zf
def smT52:Tr (List Sm):=(.node (.node (.node (.node (.node (.node (.node (.node (.node (.node (.node .nil (.node (.node (.leaf ziK) .nil) .nil)) .nil) .nil) .nil) (.node (.node (.node (.node .nil (.node (.node (.leaf ziI) .nil) .nil)) .nil) .nil) .nil)) .nil) .nil) .nil) .nil) .nil) .nil)
theorem zn9:TrP (zab mc52 52 zf) smT52:=⟨⟨⟨⟨⟨⟨⟨⟨⟨⟨⟨trivial,⟨⟨(zc ziJ),trivial⟩,trivial⟩⟩,trivial⟩,trivial⟩,trivial⟩,⟨⟨⟨⟨trivial,⟨⟨(zc ziH),trivial⟩,trivial⟩⟩,trivial⟩,trivial⟩,trivial⟩⟩,trivial⟩,trivial⟩,trivial⟩,trivial⟩,trivial⟩,trivial⟩
def sm52:Hk:=jW mc52 (ssT smT52) 52 zf
def smT72:Tr (List Sm):=(.node (.node (.node (.node (.node (.node (.node (.node (.node (.node (.node .nil (.node (.node (.leaf ziG) .nil) .nil)) .nil) .nil) (.node (.node (.node .nil (.node (.node (.leaf ziu) .nil) .nil)) .nil) .nil)) (.node (.node (.node (.node (.node (.node (.leaf s72_64) .nil) .nil) (.node (.node (.leaf ziA) .nil) .nil)) .nil) .nil) (.node (.node (.node .nil (.node (.node (.leaf zhX) .nil) .nil)) .nil) .nil))) (.node (.node (.node (.node (.node (.node (.node (.leaf s72_32) .nil) .nil) .nil) .nil) .nil) (.node (.node (.node .nil (.node (.node (.leaf zid) .nil) .nil)) .nil) .nil)) (.node (.node (.node (.node (.node (.node (.leaf s72_96) .nil) .nil) .nil) .nil) .nil) (.node (.node (.node .nil (.node (.node (.leaf zhH) .nil) .nil)) .nil) .nil)))) (.node (.node (.node .nil (.node (.node (.node .nil (.node (.node (.leaf zil) .nil) .nil)) .nil) .nil)) (.node (.node (.node (.node (.node (.node (.leaf s72_80) .nil) .nil) .nil) .nil) .nil) (.node (.node (.node .nil (.node (.node (.leaf zhP) .nil) .nil)) .nil) .nil))) (.node (.node (.node (.node (.node (.node (.node (.leaf s72_48) .nil) .nil) .nil) .nil) .nil) (.node (.node (.node .nil (.node (.node (.leaf zh5) .nil) .nil)) .nil) .nil)) (.node (.node (.node (.node (.node (.node (.leaf zlF) .nil) .nil) .nil) .nil) .nil) (.node (.node (.node .nil (.node (.node (.leaf zhz) .nil) .nil)) .nil) .nil))))) (.node (.node (.node (.node (.node (.node (.node .nil (.node (.node (.leaf ziC) .nil) .nil)) .nil) .nil) (.node (.node (.node .nil (.node (.node (.leaf ziq) .nil) .nil)) .nil) .nil)) (.node (.node (.node (.node (.node (.node (.leaf s72_72) .nil) .nil) (.node (.node (.leaf ziw) .nil) .nil)) .nil) .nil) (.node (.node (.node .nil (.node (.node (.leaf zhT) .nil) .nil)) .nil) .nil))) (.node (.node (.node (.node (.node (.node (.node (.leaf s72_40) .nil) .nil) .nil) .nil) .nil) (.node (.node (.node .nil (.node (.node (.leaf zh9) .nil) .nil)) .nil) .nil)) (.node (.node (.node (.node (.node (.node (.leaf zlH) .nil) .nil) .nil) .nil) .nil) (.node (.node (.node .nil (.node (.node (.leaf zhD) .nil) .nil)) .nil) .nil)))) (.node (.node (.node .nil (.node (.node (.node .nil (.node (.node (.leaf zih) .nil) .nil)) .nil) .nil)) (.node (.node (.node (.node (.node (.node (.leaf s72_88) .nil) .nil) .nil) .nil) .nil) (.node (.node (.node .nil (.node (.node (.leaf zhL) .nil) .nil)) .nil) .nil))) (.node (.node (.node (.node (.node (.node (.node (.leaf s72_56) .nil) .nil) .nil) .nil) .nil) (.node (.node (.node .nil (.node (.node (.leaf zh1) .nil) .nil)) .nil) .nil)) (.node (.node (.node (.node (.node (.node (.leaf zlD) .nil) .nil) .nil) .nil) .nil) (.node (.node (.node .nil (.node (.node (.leaf zhv) .nil) .nil)) .nil) .nil)))))) (.node (.node (.node (.node (.node (.node (.node (.node .nil (.node (.node (.leaf ziE) .nil) .nil)) .nil) .nil) (.node (.node (.node .nil (.node (.node (.leaf zis) .nil) .nil)) .nil) .nil)) (.node (.node (.node (.node (.node (.node (.leaf s72_68) .nil) .nil) (.node (.node (.leaf ziy) .nil) .nil)) .nil) .nil) (.node (.node (.node .nil (.node (.node (.leaf zhV) .nil) .nil)) .nil) .nil))) (.node (.node (.node (.node (.node (.node (.node (.leaf s72_36) .nil) .nil) .nil) .nil) .nil) (.node (.node (.node .nil (.node (.node (.leaf zib) .nil) .nil)) .nil) .nil)) (.node (.node (.node (.node (.node (.node (.leaf zlI) .nil) .nil) .nil) .nil) .nil) (.node (.node (.node .nil (.node (.node (.leaf zhF) .nil) .nil)) .nil) .nil)))) (.node (.node (.node .nil (.node (.node (.node .nil (.node (.node (.leaf zij) .nil) .nil)) .nil) .nil)) (.node (.node (.node (.node (.node (.node (.leaf s72_84) .nil) .nil) .nil) .nil) .nil) (.node (.node (.node .nil (.node (.node (.leaf zhN) .nil) .nil)) .nil) .nil))) (.node (.node (.node (.node (.node (.node (.node (.leaf s72_52) .nil) .nil) .nil) .nil) .nil) (.node (.node (.node .nil (.node (.node (.leaf zh3) .nil) .nil)) .nil) .nil)) (.node (.node (.node (.node (.node (.node (.leaf zlE) .nil) .nil) .nil) .nil) .nil) (.node (.node (.node .nil (.node (.node (.leaf zhx) .nil) .nil)) .nil) .nil))))) (.node (.node (.node (.node .nil (.node (.node (.node .nil (.node (.node (.leaf zin) .nil) .nil)) .nil) .nil)) (.node (.node (.node (.node (.node (.node (.leaf s72_76) .nil) .nil) .nil) .nil) .nil) (.node (.node (.node .nil (.node (.node (.leaf zhR) .nil) .nil)) .nil) .nil))) (.node (.node (.node (.node (.node (.node (.node (.leaf s72_44) .nil) .nil) .nil) .nil) .nil) (.node (.node (.node .nil (.node (.node (.leaf zh7) .nil) .nil)) .nil) .nil)) (.node (.node (.node (.node (.node (.node (.leaf zlG) .nil) .nil) .nil) .nil) .nil) (.node (.node (.node .nil (.node (.node (.leaf zhB) .nil) .nil)) .nil) .nil)))) (.node (.node (.node .nil (.node (.node (.node .nil (.node (.node (.leaf zif) .nil) .nil)) .nil) .nil)) (.node (.node (.node (.node (.node (.node (.leaf s72_92) .nil) .nil) .nil) .nil) .nil) (.node (.node (.node .nil (.node (.node (.leaf zhJ) .nil) .nil)) .nil) .nil))) (.node (.node (.node (.node (.node (.node (.node (.leaf s72_60) .nil) .nil) .nil) .nil) .nil) (.node (.node (.node .nil (.node (.node (.leaf zhZ) .nil) .nil)) .nil) .nil)) (.node (.node (.node (.node (.node (.node (.leaf zlC) .nil) .nil) .nil) .nil) .nil) (.node (.node (.node .nil (.node (.node (.leaf zht) .nil) .nil)) .nil) .nil))))))) .nil) .nil)
theorem zn8:TrP (zab ye 72 zf) smT72:=⟨⟨⟨⟨⟨⟨⟨⟨⟨⟨⟨trivial,⟨⟨(zc ziF),trivial⟩,trivial⟩⟩,trivial⟩,trivial⟩,⟨⟨⟨trivial,⟨⟨(zc zit),trivial⟩,trivial⟩⟩,trivial⟩,trivial⟩⟩,⟨⟨⟨⟨⟨⟨(zc zmO),trivial⟩,trivial⟩,⟨⟨(zc ziz),trivial⟩,trivial⟩⟩,trivial⟩,trivial⟩,⟨⟨⟨trivial,⟨⟨(zc zhW),trivial⟩,trivial⟩⟩,trivial⟩,trivial⟩⟩⟩,⟨⟨⟨⟨⟨⟨⟨(zc zmW),trivial⟩,trivial⟩,trivial⟩,trivial⟩,trivial⟩,⟨⟨⟨trivial,⟨⟨(zc zic),trivial⟩,trivial⟩⟩,trivial⟩,trivial⟩⟩,⟨⟨⟨⟨⟨⟨(zc zmG),trivial⟩,trivial⟩,trivial⟩,trivial⟩,trivial⟩,⟨⟨⟨trivial,⟨⟨(zc zhG),trivial⟩,trivial⟩⟩,trivial⟩,trivial⟩⟩⟩⟩,⟨⟨⟨trivial,⟨⟨⟨trivial,⟨⟨(zc zik),trivial⟩,trivial⟩⟩,trivial⟩,trivial⟩⟩,⟨⟨⟨⟨⟨⟨(zc zmK),trivial⟩,trivial⟩,trivial⟩,trivial⟩,trivial⟩,⟨⟨⟨trivial,⟨⟨(zc zhO),trivial⟩,trivial⟩⟩,trivial⟩,trivial⟩⟩⟩,⟨⟨⟨⟨⟨⟨⟨(zc zmS),trivial⟩,trivial⟩,trivial⟩,trivial⟩,trivial⟩,⟨⟨⟨trivial,⟨⟨(zc zh4),trivial⟩,trivial⟩⟩,trivial⟩,trivial⟩⟩,⟨⟨⟨⟨⟨⟨(zc zkL),trivial⟩,trivial⟩,trivial⟩,trivial⟩,trivial⟩,⟨⟨⟨trivial,⟨⟨(zc zhy),trivial⟩,trivial⟩⟩,trivial⟩,trivial⟩⟩⟩⟩⟩,⟨⟨⟨⟨⟨⟨⟨trivial,⟨⟨(zc ziB),trivial⟩,trivial⟩⟩,trivial⟩,trivial⟩,⟨⟨⟨trivial,⟨⟨(zc zio),trivial⟩,trivial⟩⟩,trivial⟩,trivial⟩⟩,⟨⟨⟨⟨⟨⟨(zc zmM),trivial⟩,trivial⟩,⟨⟨(zc ziv),trivial⟩,trivial⟩⟩,trivial⟩,trivial⟩,⟨⟨⟨trivial,⟨⟨(zc zhS),trivial⟩,trivial⟩⟩,trivial⟩,trivial⟩⟩⟩,⟨⟨⟨⟨⟨⟨⟨(zc zmU),trivial⟩,trivial⟩,trivial⟩,trivial⟩,trivial⟩,⟨⟨⟨trivial,⟨⟨(zc zh8),trivial⟩,trivial⟩⟩,trivial⟩,trivial⟩⟩,⟨⟨⟨⟨⟨⟨(zc zkN),trivial⟩,trivial⟩,trivial⟩,trivial⟩,trivial⟩,⟨⟨⟨trivial,⟨⟨(zc zhC),trivial⟩,trivial⟩⟩,trivial⟩,trivial⟩⟩⟩⟩,⟨⟨⟨trivial,⟨⟨⟨trivial,⟨⟨(zc zig),trivial⟩,trivial⟩⟩,trivial⟩,trivial⟩⟩,⟨⟨⟨⟨⟨⟨(zc zmI),trivial⟩,trivial⟩,trivial⟩,trivial⟩,trivial⟩,⟨⟨⟨trivial,⟨⟨(zc zhK),trivial⟩,trivial⟩⟩,trivial⟩,trivial⟩⟩⟩,⟨⟨⟨⟨⟨⟨⟨(zc zmQ),trivial⟩,trivial⟩,trivial⟩,trivial⟩,trivial⟩,⟨⟨⟨trivial,⟨⟨(zc zh0),trivial⟩,trivial⟩⟩,trivial⟩,trivial⟩⟩,⟨⟨⟨⟨⟨⟨(zc zkJ),trivial⟩,trivial⟩,trivial⟩,trivial⟩,trivial⟩,⟨⟨⟨trivial,⟨⟨(zc zhu),trivial⟩,trivial⟩⟩,trivial⟩,trivial⟩⟩⟩⟩⟩⟩,⟨⟨⟨⟨⟨⟨⟨⟨trivial,⟨⟨(zc ziD),trivial⟩,trivial⟩⟩,trivial⟩,trivial⟩,⟨⟨⟨trivial,⟨⟨(zc zir),trivial⟩,trivial⟩⟩,trivial⟩,trivial⟩⟩,⟨⟨⟨⟨⟨⟨(zc zmN),trivial⟩,trivial⟩,⟨⟨(zc zix),trivial⟩,trivial⟩⟩,trivial⟩,trivial⟩,⟨⟨⟨trivial,⟨⟨(zc zhU),trivial⟩,trivial⟩⟩,trivial⟩,trivial⟩⟩⟩,⟨⟨⟨⟨⟨⟨⟨(zc zmV),trivial⟩,trivial⟩,trivial⟩,trivial⟩,trivial⟩,⟨⟨⟨trivial,⟨⟨(zc zia),trivial⟩,trivial⟩⟩,trivial⟩,trivial⟩⟩,⟨⟨⟨⟨⟨⟨(zc zkO),trivial⟩,trivial⟩,trivial⟩,trivial⟩,trivial⟩,⟨⟨⟨trivial,⟨⟨(zc zhE),trivial⟩,trivial⟩⟩,trivial⟩,trivial⟩⟩⟩⟩,⟨⟨⟨trivial,⟨⟨⟨trivial,⟨⟨(zc zii),trivial⟩,trivial⟩⟩,trivial⟩,trivial⟩⟩,⟨⟨⟨⟨⟨⟨(zc zmJ),trivial⟩,trivial⟩,trivial⟩,trivial⟩,trivial⟩,⟨⟨⟨trivial,⟨⟨(zc zhM),trivial⟩,trivial⟩⟩,trivial⟩,trivial⟩⟩⟩,⟨⟨⟨⟨⟨⟨⟨(zc zmR),trivial⟩,trivial⟩,trivial⟩,trivial⟩,trivial⟩,⟨⟨⟨trivial,⟨⟨(zc zh2),trivial⟩,trivial⟩⟩,trivial⟩,trivial⟩⟩,⟨⟨⟨⟨⟨⟨(zc zkK),trivial⟩,trivial⟩,trivial⟩,trivial⟩,trivial⟩,⟨⟨⟨trivial,⟨⟨(zc zhw),trivial⟩,trivial⟩⟩,trivial⟩,trivial⟩⟩⟩⟩⟩,⟨⟨⟨⟨trivial,⟨⟨⟨trivial,⟨⟨(zc zim),trivial⟩,trivial⟩⟩,trivial⟩,trivial⟩⟩,⟨⟨⟨⟨⟨⟨(zc zmL),trivial⟩,trivial⟩,trivial⟩,trivial⟩,trivial⟩,⟨⟨⟨trivial,⟨⟨(zc zhQ),trivial⟩,trivial⟩⟩,trivial⟩,trivial⟩⟩⟩,⟨⟨⟨⟨⟨⟨⟨(zc zmT),trivial⟩,trivial⟩,trivial⟩,trivial⟩,trivial⟩,⟨⟨⟨trivial,⟨⟨(zc zh6),trivial⟩,trivial⟩⟩,trivial⟩,trivial⟩⟩,⟨⟨⟨⟨⟨⟨(zc zkM),trivial⟩,trivial⟩,trivial⟩,trivial⟩,trivial⟩,⟨⟨⟨trivial,⟨⟨(zc zhA),trivial⟩,trivial⟩⟩,trivial⟩,trivial⟩⟩⟩⟩,⟨⟨⟨trivial,⟨⟨⟨trivial,⟨⟨(zc zie),trivial⟩,trivial⟩⟩,trivial⟩,trivial⟩⟩,⟨⟨⟨⟨⟨⟨(zc zmH),trivial⟩,trivial⟩,trivial⟩,trivial⟩,trivial⟩,⟨⟨⟨trivial,⟨⟨(zc zhI),trivial⟩,trivial⟩⟩,trivial⟩,trivial⟩⟩⟩,⟨⟨⟨⟨⟨⟨⟨(zc zmP),trivial⟩,trivial⟩,trivial⟩,trivial⟩,trivial⟩,⟨⟨⟨trivial,⟨⟨(zc zhY),trivial⟩,trivial⟩⟩,trivial⟩,trivial⟩⟩,⟨⟨⟨⟨⟨⟨(zc zkI),trivial⟩,trivial⟩,trivial⟩,trivial⟩,trivial⟩,⟨⟨⟨trivial,⟨⟨(zc zhs),trivial⟩,trivial⟩⟩,trivial⟩,trivial⟩⟩⟩⟩⟩⟩⟩,trivial⟩,trivial⟩
def sm72:Hk:=jW ye (ssT smT72) 72 zf
def smT101:Tr (List Sm):=(.node (.node (.node (.node .nil (.node (.node (.node (.node (.node (.node (.node (.node (.node (.leaf s101_8) .nil) .nil) .nil) .nil) .nil) .nil) .nil) .nil) .nil)) (.node (.node (.node (.node (.node (.node (.node (.node (.node (.node (.leaf s101_4) .nil) .nil) .nil) .nil) .nil) .nil) .nil) .nil) .nil) .nil)) (.node (.node (.node (.node (.node (.node (.node (.node (.node (.node (.node (.leaf s101_2) .nil) .nil) .nil) .nil) .nil) .nil) .nil) .nil) .nil) .nil) .nil)) (.node (.node (.node (.node (.node (.node (.node (.node (.node (.node (.node (.node (.leaf s101_1) .nil) .nil) .nil) .nil) .nil) .nil) .nil) .nil) (.node (.node (.node (.node (.node (.node (.node (.node (.leaf zlK) .nil) .nil) .nil) .nil) .nil) .nil) .nil) .nil)) (.node (.node (.node (.node (.node .nil (.node (.node (.node (.node (.leaf zjk) .nil) .nil) .nil) .nil)) .nil) .nil) .nil) .nil)) .nil) .nil))
theorem zmB:TrP (zab zd0 101 zf) smT101:=⟨⟨⟨⟨trivial,⟨⟨⟨⟨⟨⟨⟨⟨⟨(zc zm1),trivial⟩,trivial⟩,trivial⟩,trivial⟩,trivial⟩,trivial⟩,trivial⟩,trivial⟩,trivial⟩⟩,⟨⟨⟨⟨⟨⟨⟨⟨⟨⟨(zc zm2),trivial⟩,trivial⟩,trivial⟩,trivial⟩,trivial⟩,trivial⟩,trivial⟩,trivial⟩,trivial⟩,trivial⟩⟩,⟨⟨⟨⟨⟨⟨⟨⟨⟨⟨⟨(zc zm3),trivial⟩,trivial⟩,trivial⟩,trivial⟩,trivial⟩,trivial⟩,trivial⟩,trivial⟩,trivial⟩,trivial⟩,trivial⟩⟩,⟨⟨⟨⟨⟨⟨⟨⟨⟨⟨⟨⟨(zc zm4),trivial⟩,trivial⟩,trivial⟩,trivial⟩,trivial⟩,trivial⟩,trivial⟩,trivial⟩,⟨⟨⟨⟨⟨⟨⟨⟨(zc zkQ),trivial⟩,trivial⟩,trivial⟩,trivial⟩,trivial⟩,trivial⟩,trivial⟩,trivial⟩⟩,⟨⟨⟨⟨⟨trivial,⟨⟨⟨⟨(zc zjj),trivial⟩,trivial⟩,trivial⟩,trivial⟩⟩,trivial⟩,trivial⟩,trivial⟩,trivial⟩⟩,trivial⟩,trivial⟩⟩
def zeP:Hk:=jW zd0 (ssT smT101) 101 zf
def smT243:Tr (List Sm):=(.node (.node (.node (.node .nil (.node (.node (.node (.node (.node .nil (.node (.node .nil (.node (.node (.leaf zfR) .nil) .nil)) .nil)) .nil) .nil) .nil) .nil)) .nil) .nil) .nil)
theorem zmA:TrP (zab mc243 243 zf) smT243:=⟨⟨⟨⟨trivial,⟨⟨⟨⟨⟨trivial,⟨⟨trivial,⟨⟨(zc zgx),trivial⟩,trivial⟩⟩,trivial⟩⟩,trivial⟩,trivial⟩,trivial⟩,trivial⟩⟩,trivial⟩,trivial⟩,trivial⟩
def zdX:Hk:=jW mc243 (ssT smT243) 243 zf
def smT245:Tr (List Sm):=(.node (.node (.node (.node (.node (.node (.node (.node (.node .nil (.node (.node .nil (.node (.node (.leaf zfQ) .nil) .nil)) .nil)) .nil) .nil) .nil) .nil) .nil) .nil) .nil) .nil)
theorem zmz:TrP (zab mc245 245 zf) smT245:=⟨⟨⟨⟨⟨⟨⟨⟨⟨trivial,⟨⟨trivial,⟨⟨(zc zgw),trivial⟩,trivial⟩⟩,trivial⟩⟩,trivial⟩,trivial⟩,trivial⟩,trivial⟩,trivial⟩,trivial⟩,trivial⟩,trivial⟩
def zcK:Hk:=jW mc245 (ssT smT245) 245 zf
def smT291:Tr (List Sm):=(.node (.node (.node (.node (.node (.node (.node (.node (.node .nil (.node (.node .nil (.node (.node (.leaf zfP) .nil) .nil)) .nil)) .nil) .nil) .nil) .nil) .nil) .nil) .nil) .nil)
theorem zmy:TrP (zab mc291 291 zf) smT291:=⟨⟨⟨⟨⟨⟨⟨⟨⟨trivial,⟨⟨trivial,⟨⟨(zc zgv),trivial⟩,trivial⟩⟩,trivial⟩⟩,trivial⟩,trivial⟩,trivial⟩,trivial⟩,trivial⟩,trivial⟩,trivial⟩,trivial⟩
def zcg:Hk:=jW mc291 (ssT smT291) 291 zf
variable {E:Env}
def LenB (E:Env):Prop:=zd E Tryz.prog (fun G l h fa k=>bc (Nat.beq G 197) (lenX l h fa k) 1)
def AnyB (E:Env):Prop:=zd E Tryz.prog (fun G l h fa k=>bc (Nat.beq G 239) (anyX l h fa k) 1)
structure LenOk (E:Env):Prop where
 len:LenB E
 any:AnyB E
def jz (E:Env):Prop:=∀ E':Env,(∀ q,q≠7->E'.s q=E.s q)->LenOk E'
theorem jz.one (h:jz E):LenOk E:=h E (fun _ _=>rfl)
theorem yF {C:Nat->Option Hk} {a:Nat} {s:Hk} (hs:zd E Tryz.prog (fun G l h fa k=>bc (Nat.beq G a) (s l h fa k) 1))
  (hC:∀ F t,C F=some t->zd E Tryz.prog (fun G l h fa k=>bc (Nat.beq G F) (t l h fa k) 1)):∀ F t,bc (Nat.beq F a) (some s) (C F)=some t->zd E Tryz.prog (fun G l h fa k=>bc (Nat.beq G F) (t l h fa k) 1):=by
 intro F t h
 cases e:Nat.beq F a with
 | true=>
  rw[e]at h
  have h:some s=some t:=h
  cases h
  have e:F=a:=by simpa using e
  subst e
  exact hs
 | false=>rw[e]at h;exact hC F t h
theorem zp1:∀ F t,(none:Option Hk)=some t->zd E Tryz.prog (fun G l h fa k=>bc (Nat.beq G F) (t l h fa k) 1):=fun F t h=>by cases h
theorem hk0_ok (hlen:LenOk E):∀ F t,hk0 F=some t->zd E Tryz.prog (fun G l h fa k=>bc (Nat.beq G F) (t l h fa k) 1):=yF (C:=fun F=>(bc (Nat.beq F 239) (some anyX) none)) (hlen.len) (yF (C:=fun F=>none) (hlen.any) (zp1))
theorem cx0_ok (hlen:LenOk E):CxOk E Tryz.prog (zk Tryz.prog) cx0:=⟨zr,yB,fun F i h=>zcw h,hk0_ok hlen⟩
theorem jL (hlen:LenOk E):zd E Tryz.prog zf:=zaj (cx0_ok hlen) 100
theorem hk0_okA (hlen:jz E):∀ F t,hk0 F=some t->zd E Tryz.prog (fun G l h fa k=>bc (Nat.beq G F) (t l h fa k) 1):=hk0_ok hlen.one
def hkH0 (F:Nat):Option Hk:=(bc (Nat.beq F 15) (some sm15) (bc (Nat.beq F 19) (some sm19) (bc (Nat.beq F 37) (some sm37) (bc (Nat.beq F 48) (some sm48) (bc (Nat.beq F 52) (some sm52) (bc (Nat.beq F 72) (some sm72) (bc (Nat.beq F 101) (some zeP) (bc (Nat.beq F 243) (some zdX) (bc (Nat.beq F 245) (some zcK) (bc (Nat.beq F 291) (some zcg) (hk0 F)))))))))))
theorem hkH0_ok (hlen:jz E):∀ F t,hkH0 F=some t->zd E Tryz.prog (fun G l h fa k=>bc (Nat.beq G F) (t l h fa k) 1):=yF (C:=fun F=>(bc (Nat.beq F 19) (some sm19) (bc (Nat.beq F 37) (some sm37) (bc (Nat.beq F 48) (some sm48) (bc (Nat.beq F 52) (some sm52) (bc (Nat.beq F 72) (some sm72) (bc (Nat.beq F 101) (some zeP) (bc (Nat.beq F 243) (some zdX) (bc (Nat.beq F 245) (some zcK) (bc (Nat.beq F 291) (some zcg) (hk0 F))))))))))) (zcf (fun E' h=>jL (hlen E' h)) zog) (yF (C:=fun F=>(bc (Nat.beq F 37) (some sm37) (bc (Nat.beq F 48) (some sm48) (bc (Nat.beq F 52) (some sm52) (bc (Nat.beq F 72) (some sm72) (bc (Nat.beq F 101) (some zeP) (bc (Nat.beq F 243) (some zdX) (bc (Nat.beq F 245) (some zcK) (bc (Nat.beq F 291) (some zcg) (hk0 F)))))))))) (zcf (fun E' h=>jL (hlen E' h)) zof) (yF (C:=fun F=>(bc (Nat.beq F 48) (some sm48) (bc (Nat.beq F 52) (some sm52) (bc (Nat.beq F 72) (some sm72) (bc (Nat.beq F 101) (some zeP) (bc (Nat.beq F 243) (some zdX) (bc (Nat.beq F 245) (some zcK) (bc (Nat.beq F 291) (some zcg) (hk0 F))))))))) (zcf (fun E' h=>jL (hlen E' h)) zob) (yF (C:=fun F=>(bc (Nat.beq F 52) (some sm52) (bc (Nat.beq F 72) (some sm72) (bc (Nat.beq F 101) (some zeP) (bc (Nat.beq F 243) (some zdX) (bc (Nat.beq F 245) (some zcK) (bc (Nat.beq F 291) (some zcg) (hk0 F)))))))) (zcf (fun E' h=>jL (hlen E' h)) zoa) (yF (C:=fun F=>(bc (Nat.beq F 72) (some sm72) (bc (Nat.beq F 101) (some zeP) (bc (Nat.beq F 243) (some zdX) (bc (Nat.beq F 245) (some zcK) (bc (Nat.beq F 291) (some zcg) (hk0 F))))))) (zcf (fun E' h=>jL (hlen E' h)) zn9) (yF (C:=fun F=>(bc (Nat.beq F 101) (some zeP) (bc (Nat.beq F 243) (some zdX) (bc (Nat.beq F 245) (some zcK) (bc (Nat.beq F 291) (some zcg) (hk0 F)))))) (zcf (fun E' h=>jL (hlen E' h)) zn8) (yF (C:=fun F=>(bc (Nat.beq F 243) (some zdX) (bc (Nat.beq F 245) (some zcK) (bc (Nat.beq F 291) (some zcg) (hk0 F))))) (zcf (fun E' h=>jL (hlen E' h)) zmB) (yF (C:=fun F=>(bc (Nat.beq F 245) (some zcK) (bc (Nat.beq F 291) (some zcg) (hk0 F)))) (zcf (fun E' h=>jL (hlen E' h)) zmA) (yF (C:=fun F=>(bc (Nat.beq F 291) (some zcg) (hk0 F))) (zcf (fun E' h=>jL (hlen E' h)) zmz) (yF (C:=fun F=>(hk0 F)) (zcf (fun E' h=>jL (hlen E' h)) zmy) (hk0_okA hlen))))))))))
def hkG (F:Nat):Option Hk:=(hkH0 F)
theorem hkG_ok (hlen:jz E):∀ F t,hkG F=some t->zd E Tryz.prog (fun G l h fa k=>bc (Nat.beq G F) (t l h fa k) 1):=hkH0_ok hlen
def cxG:Cx:=⟨fnX,hkG,20000⟩
def callG:zR:=zd7 cxG 100
theorem cxG_ok (hlen:jz E):CxOk E Tryz.prog (zk Tryz.prog) cxG:=⟨zr,yB,fun F i h=>zcw h,hkG_ok hlen⟩
theorem zkc (hlen:jz E):zd E Tryz.prog callG:=zaj (cxG_ok hlen) 100
def ct0_154:Hk:=cntT xn154.body xn154.res callG 154 20000
def zml:Hk:=cntT xn164.body xn164.res callG 164 20000
def hkN0 (F:Nat):Option Hk:=(bc (Nat.beq F 154) (some ct0_154) (bc (Nat.beq F 164) (some zml) (hkG F)))
theorem zmb (hlen:jz E):∀ F t,hkN0 F=some t->zd E Tryz.prog (fun G l h fa k=>bc (Nat.beq G F) (t l h fa k) 1):=yF (C:=fun F=>(bc (Nat.beq F 164) (some zml) (hkG F))) (zln zr yB (zkc hlen) Tryz.func154 Tryz.call154 cn154 (drB wn154)) (yF (C:=fun F=>(hkG F)) (zln zr yB (zkc hlen) Tryz.func164 Tryz.call164 cn164 (drB wn164)) (hkG_ok hlen))
def cxN0:Cx:=⟨fnX,hkN0,20000⟩
def callN0:zR:=zd7 cxN0 100
theorem cxN0_ok (hlen:jz E):CxOk E Tryz.prog (zk Tryz.prog) cxN0:=⟨zr,yB,fun F i h=>zcw h,zmb hlen⟩
theorem znB (hlen:jz E):zd E Tryz.prog callN0:=zaj (cxN0_ok hlen) 100
def ct1_82:Hk:=cntT xn82.body xn82.res callN0 82 20000
def hkN1 (F:Nat):Option Hk:=(bc (Nat.beq F 82) (some ct1_82) (hkN0 F))
theorem zma (hlen:jz E):∀ F t,hkN1 F=some t->zd E Tryz.prog (fun G l h fa k=>bc (Nat.beq G F) (t l h fa k) 1):=yF (C:=fun F=>(hkN0 F)) (zln zr yB (znB hlen) Tryz.func82 Tryz.call82 cn82 (drB wn82)) (zmb hlen)
def cxN1:Cx:=⟨fnX,hkN1,20000⟩
def zaO:zR:=zd7 cxN1 100
theorem cxN1_ok (hlen:jz E):CxOk E Tryz.prog (zk Tryz.prog) cxN1:=⟨zr,yB,fun F i h=>zcw h,zma hlen⟩
theorem jm (hlen:jz E):zd E Tryz.prog zaO:=zaj (cxN1_ok hlen) 100
def zkH:zdh:=subT yc94 rs94 zaO 94 20000 zbJ
def zkG:zdh:=subT yc95 rs95 zaO 95 20000 zbJ
def zhl (F:Nat):Option zdh:=(bc (Nat.beq F 94) (some zkH) (bc (Nat.beq F 95) (some zkG) none))
theorem zeN (hlen:jz E) {s:LS} {yid:Ev.P} {hand:zee} (hh:zck E Tryz.prog (zA E s yid) yid hand):SubA E Tryz.prog (zA E s yid) yid hand zhl:=by
 intro G t h
 unfold zhl at h
 cases e94':Nat.beq G 94 with
 | true=>
  rw[e94']at h
  have h:some zkH=some t:=h
  cases h
  have e:G=94:=by simpa using e94'
  subst e
  refine⟨Tryz.call94,fun l hp fa k hk hfa=>?_⟩
  have hy:=y94
  split at hy
  ·rename_i c hc
   unfold zkH at hk
   rw[<- hy]at hk
   exact zgr zr yB (jm hlen) Tryz.func94 hc e94 s hand yid l hp fa k hh zaG hk hfa
  ·rename_i hc
   exact absurd hc (by have : Tryz.f94.body.isSome = true := by kernel_rfl
                       intro hn;rw[hn]at this;cases this)
 | false=>
 rw[e94']at h
 cases e95':Nat.beq G 95 with
 | true=>
  rw[e95']at h
  have h:some zkG=some t:=h
  cases h
  have e:G=95:=by simpa using e95'
  subst e
  refine⟨Tryz.call95,fun l hp fa k hk hfa=>?_⟩
  have hy:=y95
  split at hy
  ·rename_i c hc
   unfold zkG at hk
   rw[<- hy]at hk
   exact zgr zr yB (jm hlen) Tryz.func95 hc e95 s hand yid l hp fa k hh zaG hk hfa
  ·rename_i hc
   exact absurd hc (by have : Tryz.f95.body.isSome = true := by kernel_rfl
                       intro hn;rw[hn]at this;cases this)
 | false=>
 rw[e95']at h
 cases h
def zla:zdj:=itrT yc91 zaO 91 20000 zhl
def zgT:zdj:=itrT yc232 zaO 232 20000 zhl
def zgS:zdj:=itrT yc241 zaO 241 20000 zhl
def zfc (F:Nat):Option zdj:=(bc (Nat.beq F 91) (some zla) (bc (Nat.beq F 232) (some zgT) (bc (Nat.beq F 241) (some zgS) none)))
theorem zbO (hlen:jz E):zms E Tryz.prog zfc:=by
 intro G it h
 unfold zfc at h
 cases e91':Nat.beq G 91 with
 | true=>
  rw[e91']at h
  have h:some zla=some it:=h
  cases h
  have e:G=91:=by simpa using e91'
  subst e
  refine⟨Tryz.call91,fun s hand yid l hp fa k hh hk hfa=>?_⟩
  have hy:=y91
  split at hy
  ·rename_i c hc
   unfold zla at hk
   rw[<- hy]at hk
   exact zdC zr yB (jm hlen) Tryz.func91 hc e91 s hand yid l hp fa k hh (zeN hlen hh) hk hfa
  ·rename_i hc
   exact absurd hc (by have : Tryz.f91.body.isSome = true := by kernel_rfl
                       intro hn;rw[hn]at this;cases this)
 | false=>
 rw[e91']at h
 cases e232':Nat.beq G 232 with
 | true=>
  rw[e232']at h
  have h:some zgT=some it:=h
  cases h
  have e:G=232:=by simpa using e232'
  subst e
  refine⟨Tryz.call232,fun s hand yid l hp fa k hh hk hfa=>?_⟩
  have hy:=y232
  split at hy
  ·rename_i c hc
   unfold zgT at hk
   rw[<- hy]at hk
   exact zdC zr yB (jm hlen) Tryz.func232 hc e232 s hand yid l hp fa k hh (zeN hlen hh) hk hfa
  ·rename_i hc
   exact absurd hc (by have : Tryz.f232.body.isSome = true := by kernel_rfl
                       intro hn;rw[hn]at this;cases this)
 | false=>
 rw[e232']at h
 cases e241':Nat.beq G 241 with
 | true=>
  rw[e241']at h
  have h:some zgS=some it:=h
  cases h
  have e:G=241:=by simpa using e241'
  subst e
  refine⟨Tryz.call241,fun s hand yid l hp fa k hh hk hfa=>?_⟩
  have hy:=y241
  split at hy
  ·rename_i c hc
   unfold zgS at hk
   rw[<- hy]at hk
   exact zdC zr yB (jm hlen) Tryz.func241 hc e241 s hand yid l hp fa k hh (zeN hlen hh) hk hfa
  ·rename_i hc
   exact absurd hc (by have : Tryz.f241.body.isSome = true := by kernel_rfl
                       intro hn;rw[hn]at this;cases this)
 | false=>
 rw[e241']at h
 cases h
def zkU:Hk:=rfnT yc24 rs24 zaO 24 20000 zfc
theorem zm9 (hlen:jz E):zd E Tryz.prog (fun G l h fa k=>bc (Nat.beq G 24) (zkU l h fa k) 1):=by
 have hy:=y24
 split at hy
 ·rename_i c hc
  unfold zkU
  rw[<- hy]
  exact zds zr yB (jm hlen) (zbO hlen) Tryz.func24 Tryz.call24 hc e24
 ·rename_i hc
  exact absurd hc (by have : Tryz.f24.body.isSome = true := by kernel_rfl
                      intro hn;rw[hn]at this;cases this)
def zgA:Hk:=rfnT yc71 rs71 zaO 71 20000 zfc
theorem zm8 (hlen:jz E):zd E Tryz.prog (fun G l h fa k=>bc (Nat.beq G 71) (zgA l h fa k) 1):=by
 have hy:=y71
 split at hy
 ·rename_i c hc
  unfold zgA
  rw[<- hy]
  exact zds zr yB (jm hlen) (zbO hlen) Tryz.func71 Tryz.call71 hc e71
 ·rename_i hc
  exact absurd hc (by have : Tryz.f71.body.isSome = true := by kernel_rfl
                      intro hn;rw[hn]at this;cases this)
def zeS:Hk:=rfnT yc80 rs80 zaO 80 20000 zfc
theorem zm7 (hlen:jz E):zd E Tryz.prog (fun G l h fa k=>bc (Nat.beq G 80) (zeS l h fa k) 1):=by
 have hy:=y80
 split at hy
 ·rename_i c hc
  unfold zeS
  rw[<- hy]
  exact zds zr yB (jm hlen) (zbO hlen) Tryz.func80 Tryz.call80 hc e80
 ·rename_i hc
  exact absurd hc (by have : Tryz.f80.body.isSome = true := by kernel_rfl
                      intro hn;rw[hn]at this;cases this)
def zdt:Hk:=rfnT yc84 rs84 zaO 84 20000 zfc
theorem zm6 (hlen:jz E):zd E Tryz.prog (fun G l h fa k=>bc (Nat.beq G 84) (zdt l h fa k) 1):=by
 have hy:=y84
 split at hy
 ·rename_i c hc
  unfold zdt
  rw[<- hy]
  exact zds zr yB (jm hlen) (zbO hlen) Tryz.func84 Tryz.call84 hc e84
 ·rename_i hc
  exact absurd hc (by have : Tryz.f84.body.isSome = true := by kernel_rfl
                      intro hn;rw[hn]at this;cases this)
def zbi:Hk:=rfnT yc170 rs170 zaO 170 20000 zfc
theorem zkV (hlen:jz E):zd E Tryz.prog (fun G l h fa k=>bc (Nat.beq G 170) (zbi l h fa k) 1):=by
 have hy:=y170
 split at hy
 ·rename_i c hc
  unfold zbi
  rw[<- hy]
  exact zds zr yB (jm hlen) (zbO hlen) Tryz.func170 Tryz.call170 hc e170
 ·rename_i hc
  exact absurd hc (by have : Tryz.f170.body.isSome = true := by kernel_rfl
                      intro hn;rw[hn]at this;cases this)
def hkR0 (F:Nat):Option Hk:=(bc (Nat.beq F 24) (some zkU) (bc (Nat.beq F 71) (some zgA) (bc (Nat.beq F 80) (some zeS) (bc (Nat.beq F 84) (some zdt) (bc (Nat.beq F 170) (some zbi) (hkN1 F))))))
theorem zl9 (hlen:jz E):∀ F t,hkR0 F=some t->zd E Tryz.prog (fun G l h fa k=>bc (Nat.beq G F) (t l h fa k) 1):=yF (C:=fun F=>(bc (Nat.beq F 71) (some zgA) (bc (Nat.beq F 80) (some zeS) (bc (Nat.beq F 84) (some zdt) (bc (Nat.beq F 170) (some zbi) (hkN1 F)))))) (zm9 hlen) (yF (C:=fun F=>(bc (Nat.beq F 80) (some zeS) (bc (Nat.beq F 84) (some zdt) (bc (Nat.beq F 170) (some zbi) (hkN1 F))))) (zm8 hlen) (yF (C:=fun F=>(bc (Nat.beq F 84) (some zdt) (bc (Nat.beq F 170) (some zbi) (hkN1 F)))) (zm7 hlen) (yF (C:=fun F=>(bc (Nat.beq F 170) (some zbi) (hkN1 F))) (zm6 hlen) (yF (C:=fun F=>(hkN1 F)) (zkV hlen) (zma hlen)))))
def cxR0:Cx:=⟨fnX,hkR0,20000⟩
def zcA:zR:=zd7 cxR0 100
theorem cxR0_ok (hlen:jz E):CxOk E Tryz.prog (zk Tryz.prog) cxR0:=⟨zr,yB,fun F i h=>zcw h,zl9 hlen⟩
theorem zaC (hlen:jz E):zd E Tryz.prog zcA:=zaj (cxR0_ok hlen) 100
def zkF:zdh:=subT yc94 rs94 zcA 94 20000 zbJ
def zkE:zdh:=subT yc95 rs95 zcA 95 20000 zbJ
def zhk (F:Nat):Option zdh:=(bc (Nat.beq F 94) (some zkF) (bc (Nat.beq F 95) (some zkE) none))
theorem zeM (hlen:jz E) {s:LS} {yid:Ev.P} {hand:zee} (hh:zck E Tryz.prog (zA E s yid) yid hand):SubA E Tryz.prog (zA E s yid) yid hand zhk:=by
 intro G t h
 unfold zhk at h
 cases e94':Nat.beq G 94 with
 | true=>
  rw[e94']at h
  have h:some zkF=some t:=h
  cases h
  have e:G=94:=by simpa using e94'
  subst e
  refine⟨Tryz.call94,fun l hp fa k hk hfa=>?_⟩
  have hy:=y94
  split at hy
  ·rename_i c hc
   unfold zkF at hk
   rw[<- hy]at hk
   exact zgr zr yB (zaC hlen) Tryz.func94 hc e94 s hand yid l hp fa k hh zaG hk hfa
  ·rename_i hc
   exact absurd hc (by have : Tryz.f94.body.isSome = true := by kernel_rfl
                       intro hn;rw[hn]at this;cases this)
 | false=>
 rw[e94']at h
 cases e95':Nat.beq G 95 with
 | true=>
  rw[e95']at h
  have h:some zkE=some t:=h
  cases h
  have e:G=95:=by simpa using e95'
  subst e
  refine⟨Tryz.call95,fun l hp fa k hk hfa=>?_⟩
  have hy:=y95
  split at hy
  ·rename_i c hc
   unfold zkE at hk
   rw[<- hy]at hk
   exact zgr zr yB (zaC hlen) Tryz.func95 hc e95 s hand yid l hp fa k hh zaG hk hfa
  ·rename_i hc
   exact absurd hc (by have : Tryz.f95.body.isSome = true := by kernel_rfl
                       intro hn;rw[hn]at this;cases this)
 | false=>
 rw[e95']at h
 cases h
def zk9:zdj:=itrT yc91 zcA 91 20000 zhk
def zgR:zdj:=itrT yc232 zcA 232 20000 zhk
def zgQ:zdj:=itrT yc241 zcA 241 20000 zhk
def itrX1 (F:Nat):Option zdj:=(bc (Nat.beq F 91) (some zk9) (bc (Nat.beq F 232) (some zgR) (bc (Nat.beq F 241) (some zgQ) none)))
theorem zpQ (hlen:jz E):zms E Tryz.prog itrX1:=by
 intro G it h
 unfold itrX1 at h
 cases e91':Nat.beq G 91 with
 | true=>
  rw[e91']at h
  have h:some zk9=some it:=h
  cases h
  have e:G=91:=by simpa using e91'
  subst e
  refine⟨Tryz.call91,fun s hand yid l hp fa k hh hk hfa=>?_⟩
  have hy:=y91
  split at hy
  ·rename_i c hc
   unfold zk9 at hk
   rw[<- hy]at hk
   exact zdC zr yB (zaC hlen) Tryz.func91 hc e91 s hand yid l hp fa k hh (zeM hlen hh) hk hfa
  ·rename_i hc
   exact absurd hc (by have : Tryz.f91.body.isSome = true := by kernel_rfl
                       intro hn;rw[hn]at this;cases this)
 | false=>
 rw[e91']at h
 cases e232':Nat.beq G 232 with
 | true=>
  rw[e232']at h
  have h:some zgR=some it:=h
  cases h
  have e:G=232:=by simpa using e232'
  subst e
  refine⟨Tryz.call232,fun s hand yid l hp fa k hh hk hfa=>?_⟩
  have hy:=y232
  split at hy
  ·rename_i c hc
   unfold zgR at hk
   rw[<- hy]at hk
   exact zdC zr yB (zaC hlen) Tryz.func232 hc e232 s hand yid l hp fa k hh (zeM hlen hh) hk hfa
  ·rename_i hc
   exact absurd hc (by have : Tryz.f232.body.isSome = true := by kernel_rfl
                       intro hn;rw[hn]at this;cases this)
 | false=>
 rw[e232']at h
 cases e241':Nat.beq G 241 with
 | true=>
  rw[e241']at h
  have h:some zgQ=some it:=h
  cases h
  have e:G=241:=by simpa using e241'
  subst e
  refine⟨Tryz.call241,fun s hand yid l hp fa k hh hk hfa=>?_⟩
  have hy:=y241
  split at hy
  ·rename_i c hc
   unfold zgQ at hk
   rw[<- hy]at hk
   exact zdC zr yB (zaC hlen) Tryz.func241 hc e241 s hand yid l hp fa k hh (zeM hlen hh) hk hfa
  ·rename_i hc
   exact absurd hc (by have : Tryz.f241.body.isSome = true := by kernel_rfl
                       intro hn;rw[hn]at this;cases this)
 | false=>
 rw[e241']at h
 cases h
def zkT:Hk:=rfnT yc83 rs83 zcA 83 20000 itrX1
theorem zm5 (hlen:jz E):zd E Tryz.prog (fun G l h fa k=>bc (Nat.beq G 83) (zkT l h fa k) 1):=by
 have hy:=y83
 split at hy
 ·rename_i c hc
  unfold zkT
  rw[<- hy]
  exact zds zr yB (zaC hlen) (zpQ hlen) Tryz.func83 Tryz.call83 hc e83
 ·rename_i hc
  exact absurd hc (by have : Tryz.f83.body.isSome = true := by kernel_rfl
                      intro hn;rw[hn]at this;cases this)
def hkR1 (F:Nat):Option Hk:=(bc (Nat.beq F 83) (some zkT) (hkR0 F))
theorem zl8 (hlen:jz E):∀ F t,hkR1 F=some t->zd E Tryz.prog (fun G l h fa k=>bc (Nat.beq G F) (t l h fa k) 1):=yF (C:=fun F=>(hkR0 F)) (zm5 hlen) (zl9 hlen)
def cxR1:Cx:=⟨fnX,hkR1,20000⟩
def zlr:zR:=zd7 cxR1 100
theorem zmj (hlen:jz E):CxOk E Tryz.prog (zk Tryz.prog) cxR1:=⟨zr,yB,fun F i h=>zcw h,zl8 hlen⟩
theorem zgg (hlen:jz E):zd E Tryz.prog zlr:=zaj (zmj hlen) 100
def df13:Hk:=dfnT x13.body x13.res zlr (dcallT cxR1 zlr) 13 20000
def hk1 (F:Nat):Option Hk:=(bc (Nat.beq F 13) (some df13) (hkR1 F))
theorem hk1_ok (hlen:jz E):∀ F t,hk1 F=some t->zd E Tryz.prog (fun G l h fa k=>bc (Nat.beq G F) (t l h fa k) 1):=yF (C:=fun F=>(hkR1 F)) (dfn_ok zr yB (zgg hlen) (znw (zmj hlen) (zgg hlen)) Tryz.func13 Tryz.call13 cx13 (drB wx13)) (zl8 hlen)
def cx1:Cx:=⟨fnX,hk1,20000⟩
def y9:zR:=zd7 cx1 100
theorem zfm (hlen:jz E):CxOk E Tryz.prog (zk Tryz.prog) cx1:=⟨zr,yB,fun F i h=>zcw h,hk1_ok hlen⟩
theorem zbU (hlen:jz E):zd E Tryz.prog y9:=zaj (zfm hlen) 100
end Go.Ev.X
end
