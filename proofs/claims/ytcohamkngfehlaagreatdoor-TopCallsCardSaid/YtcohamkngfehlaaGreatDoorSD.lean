import Derived.Test.YtcohamkngfehlaaGreatDoorSC
import Derived.Test.YtcohamkngfehlaaGreatDoorSSa
set_option linter.unusedSimpArgs false
set_option linter.unusedVariables false
set_option maxRecDepth 100000
noncomputable section
namespace Go.Ev.X
open Go Go.Ev Go.Proofs
def smT15:Tr (List Sm):=(.node (.node (.node (.node (.node (.node (.node (.node (.node (.node (.node .nil (.node (.node (.leaf zjg) .nil) .nil)) .nil) .nil) .nil) (.node (.node (.node (.node .nil (.node (.node (.leaf zje) .nil) .nil)) .nil) .nil) .nil)) .nil) .nil) .nil) .nil) .nil) .nil)
theorem zoA:TrP (j2 mc15 15 zf) smT15:=⟨⟨⟨⟨⟨⟨⟨⟨⟨⟨⟨trivial,⟨⟨(zc zjf),trivial⟩,trivial⟩⟩,trivial⟩,trivial⟩,trivial⟩,⟨⟨⟨⟨trivial,⟨⟨(zc zjd),trivial⟩,trivial⟩⟩,trivial⟩,trivial⟩,trivial⟩⟩,trivial⟩,trivial⟩,trivial⟩,trivial⟩,trivial⟩,trivial⟩
def sm15:Hk:=jV mc15 (ssT smT15) 15 zf
def smT19:Tr (List Sm):=(.node (.node (.node (.node (.node (.node (.node (.node (.node (.node (.node .nil (.node (.node (.leaf zjc) .nil) .nil)) .nil) .nil) .nil) (.node (.node (.node (.node .nil (.node (.node (.leaf zja) .nil) .nil)) .nil) .nil) .nil)) .nil) .nil) .nil) .nil) .nil) .nil)
theorem zoz:TrP (j2 mc19 19 zf) smT19:=⟨⟨⟨⟨⟨⟨⟨⟨⟨⟨⟨trivial,⟨⟨(zc zjb),trivial⟩,trivial⟩⟩,trivial⟩,trivial⟩,trivial⟩,⟨⟨⟨⟨trivial,⟨⟨(zc zi9),trivial⟩,trivial⟩⟩,trivial⟩,trivial⟩,trivial⟩⟩,trivial⟩,trivial⟩,trivial⟩,trivial⟩,trivial⟩,trivial⟩
def sm19:Hk:=jV mc19 (ssT smT19) 19 zf
def smT37:Tr (List Sm):=(.node (.node (.node (.node (.node .nil (.node (.node (.node (.node .nil (.node (.node .nil (.node (.node (.leaf zi8) .nil) .nil)) .nil)) .nil) .nil) .nil)) (.node (.node (.node (.node (.node (.node (.node (.node (.node (.leaf s37_8) .nil) .nil) .nil) .nil) .nil) .nil) .nil) .nil) .nil)) (.node (.node (.node (.node (.node (.node (.node (.node (.node (.node (.leaf s37_4) .nil) .nil) .nil) .nil) .nil) .nil) .nil) .nil) (.node (.node (.node (.node .nil (.node (.node .nil (.node (.node (.leaf zi0) .nil) .nil)) .nil)) .nil) .nil) .nil)) .nil)) (.node (.node (.node (.node (.node (.node (.node (.node (.node (.node (.node (.leaf s37_2) .nil) .nil) .nil) .nil) .nil) .nil) .nil) .nil) (.node (.node (.node (.node .nil (.node (.node .nil (.node (.node (.leaf zi4) .nil) .nil)) .nil)) .nil) .nil) .nil)) .nil) (.node (.node .nil (.node (.node (.node (.node .nil (.node (.node .nil (.node (.node (.leaf ziW) .nil) .nil)) .nil)) .nil) .nil) .nil)) .nil))) (.node (.node (.node (.node (.node (.node (.node (.node (.node (.node (.node (.node (.leaf s37_1) .nil) .nil) .nil) .nil) .nil) .nil) .nil) .nil) (.node (.node (.node (.node (.node (.node (.node (.node (.leaf s37_17) .nil) .nil) .nil) .nil) (.node (.node .nil (.node (.node (.leaf zi6) .nil) .nil)) .nil)) .nil) .nil) .nil)) (.node (.node (.node (.node (.node .nil (.node (.node (.node (.node (.leaf zlH) .nil) .nil) .nil) .nil)) .nil) .nil) .nil) .nil)) (.node (.node .nil (.node (.node (.node (.node .nil (.node (.node .nil (.node (.node (.leaf ziY) .nil) .nil)) .nil)) .nil) .nil) .nil)) .nil)) (.node (.node (.node .nil (.node (.node (.node (.node .nil (.node (.node .nil (.node (.node (.leaf zi2) .nil) .nil)) .nil)) .nil) .nil) .nil)) .nil) (.node (.node .nil (.node (.node (.node (.node .nil (.node (.node .nil (.node (.node (.leaf ziU) .nil) .nil)) .nil)) .nil) .nil) .nil)) .nil))))
theorem zov:TrP (j2 zb4 37 zf) smT37:=⟨⟨⟨⟨⟨trivial,⟨⟨⟨⟨trivial,⟨⟨trivial,⟨⟨(zc zi7),trivial⟩,trivial⟩⟩,trivial⟩⟩,trivial⟩,trivial⟩,trivial⟩⟩,⟨⟨⟨⟨⟨⟨⟨⟨⟨(zc zo1),trivial⟩,trivial⟩,trivial⟩,trivial⟩,trivial⟩,trivial⟩,trivial⟩,trivial⟩,trivial⟩⟩,⟨⟨⟨⟨⟨⟨⟨⟨⟨⟨(zc zo2),trivial⟩,trivial⟩,trivial⟩,trivial⟩,trivial⟩,trivial⟩,trivial⟩,trivial⟩,⟨⟨⟨⟨trivial,⟨⟨trivial,⟨⟨(zc ziZ),trivial⟩,trivial⟩⟩,trivial⟩⟩,trivial⟩,trivial⟩,trivial⟩⟩,trivial⟩⟩,⟨⟨⟨⟨⟨⟨⟨⟨⟨⟨⟨(zc zo3),trivial⟩,trivial⟩,trivial⟩,trivial⟩,trivial⟩,trivial⟩,trivial⟩,trivial⟩,⟨⟨⟨⟨trivial,⟨⟨trivial,⟨⟨(zc zi3),trivial⟩,trivial⟩⟩,trivial⟩⟩,trivial⟩,trivial⟩,trivial⟩⟩,trivial⟩,⟨⟨trivial,⟨⟨⟨⟨trivial,⟨⟨trivial,⟨⟨(zc ziV),trivial⟩,trivial⟩⟩,trivial⟩⟩,trivial⟩,trivial⟩,trivial⟩⟩,trivial⟩⟩⟩,⟨⟨⟨⟨⟨⟨⟨⟨⟨⟨⟨⟨(zc zo4),trivial⟩,trivial⟩,trivial⟩,trivial⟩,trivial⟩,trivial⟩,trivial⟩,trivial⟩,⟨⟨⟨⟨⟨⟨⟨⟨(zc zm0),trivial⟩,trivial⟩,trivial⟩,trivial⟩,⟨⟨trivial,⟨⟨(zc zi5),trivial⟩,trivial⟩⟩,trivial⟩⟩,trivial⟩,trivial⟩,trivial⟩⟩,⟨⟨⟨⟨⟨trivial,⟨⟨⟨⟨(zc zkM),trivial⟩,trivial⟩,trivial⟩,trivial⟩⟩,trivial⟩,trivial⟩,trivial⟩,trivial⟩⟩,⟨⟨trivial,⟨⟨⟨⟨trivial,⟨⟨trivial,⟨⟨(zc ziX),trivial⟩,trivial⟩⟩,trivial⟩⟩,trivial⟩,trivial⟩,trivial⟩⟩,trivial⟩⟩,⟨⟨⟨trivial,⟨⟨⟨⟨trivial,⟨⟨trivial,⟨⟨(zc zi1),trivial⟩,trivial⟩⟩,trivial⟩⟩,trivial⟩,trivial⟩,trivial⟩⟩,trivial⟩,⟨⟨trivial,⟨⟨⟨⟨trivial,⟨⟨trivial,⟨⟨(zc ziT),trivial⟩,trivial⟩⟩,trivial⟩⟩,trivial⟩,trivial⟩,trivial⟩⟩,trivial⟩⟩⟩⟩
def sm37:Hk:=jV zb4 (ssT smT37) 37 zf
def smT48:Tr (List Sm):=(.node (.node (.node (.node (.node (.node (.node (.node (.node (.node (.node .nil (.node (.node (.leaf ziS) .nil) .nil)) .nil) .nil) .nil) (.node (.node (.node (.node .nil (.node (.node (.leaf ziO) .nil) .nil)) .nil) .nil) .nil)) (.node (.node (.node (.node (.node (.node (.node (.leaf s48_32) .nil) .nil) .nil) .nil) .nil) .nil) .nil)) .nil) (.node (.node (.node (.node (.node (.node (.node .nil (.node (.node (.leaf ziQ) .nil) .nil)) .nil) .nil) (.node (.node (.node .nil (.node (.node (.leaf ziK) .nil) .nil)) .nil) .nil)) (.node .nil (.node (.node (.node .nil (.node (.node (.leaf ziG) .nil) .nil)) .nil) .nil))) .nil) .nil)) (.node (.node (.node (.node (.node .nil (.node (.node (.node .nil (.node (.node (.leaf ziM) .nil) .nil)) .nil) .nil)) (.node .nil (.node (.node (.node .nil (.node (.node (.leaf ziI) .nil) .nil)) .nil) .nil))) (.node (.node (.node (.node (.node (.node (.node (.leaf s48_36) .nil) .nil) .nil) .nil) .nil) .nil) .nil)) .nil) (.node .nil (.node .nil (.node (.node (.node (.node (.node (.node (.node (.leaf s48_60) .nil) .nil) .nil) .nil) .nil) .nil) .nil))))) .nil) .nil)
theorem zou:TrP (j2 zd4 48 zf) smT48:=⟨⟨⟨⟨⟨⟨⟨⟨⟨⟨⟨trivial,⟨⟨(zc ziR),trivial⟩,trivial⟩⟩,trivial⟩,trivial⟩,trivial⟩,⟨⟨⟨⟨trivial,⟨⟨(zc ziN),trivial⟩,trivial⟩⟩,trivial⟩,trivial⟩,trivial⟩⟩,⟨⟨⟨⟨⟨⟨⟨(zc zmZ),trivial⟩,trivial⟩,trivial⟩,trivial⟩,trivial⟩,trivial⟩,trivial⟩⟩,trivial⟩,⟨⟨⟨⟨⟨⟨⟨trivial,⟨⟨(zc ziP),trivial⟩,trivial⟩⟩,trivial⟩,trivial⟩,⟨⟨⟨trivial,⟨⟨(zc ziJ),trivial⟩,trivial⟩⟩,trivial⟩,trivial⟩⟩,⟨trivial,⟨⟨⟨trivial,⟨⟨(zc ziF),trivial⟩,trivial⟩⟩,trivial⟩,trivial⟩⟩⟩,trivial⟩,trivial⟩⟩,⟨⟨⟨⟨⟨trivial,⟨⟨⟨trivial,⟨⟨(zc ziL),trivial⟩,trivial⟩⟩,trivial⟩,trivial⟩⟩,⟨trivial,⟨⟨⟨trivial,⟨⟨(zc ziH),trivial⟩,trivial⟩⟩,trivial⟩,trivial⟩⟩⟩,⟨⟨⟨⟨⟨⟨⟨(zc zmY),trivial⟩,trivial⟩,trivial⟩,trivial⟩,trivial⟩,trivial⟩,trivial⟩⟩,trivial⟩,⟨trivial,⟨trivial,⟨⟨⟨⟨⟨⟨⟨(zc zmX),trivial⟩,trivial⟩,trivial⟩,trivial⟩,trivial⟩,trivial⟩,trivial⟩⟩⟩⟩⟩,trivial⟩,trivial⟩
def sm48:Hk:=jV zd4 (ssT smT48) 48 zf
def smT52:Tr (List Sm):=(.node (.node (.node (.node (.node (.node (.node (.node (.node (.node (.node .nil (.node (.node (.leaf ziE) .nil) .nil)) .nil) .nil) .nil) (.node (.node (.node (.node .nil (.node (.node (.leaf ziC) .nil) .nil)) .nil) .nil) .nil)) .nil) .nil) .nil) .nil) .nil) .nil)
theorem zot:TrP (j2 mc52 52 zf) smT52:=⟨⟨⟨⟨⟨⟨⟨⟨⟨⟨⟨trivial,⟨⟨(zc ziD),trivial⟩,trivial⟩⟩,trivial⟩,trivial⟩,trivial⟩,⟨⟨⟨⟨trivial,⟨⟨(zc ziB),trivial⟩,trivial⟩⟩,trivial⟩,trivial⟩,trivial⟩⟩,trivial⟩,trivial⟩,trivial⟩,trivial⟩,trivial⟩,trivial⟩
def sm52:Hk:=jV mc52 (ssT smT52) 52 zf
def smT72:Tr (List Sm):=(.node (.node (.node (.node (.node (.node (.node (.node (.node (.node (.node .nil (.node (.node (.leaf ziA) .nil) .nil)) .nil) .nil) (.node (.node (.node .nil (.node (.node (.leaf zin) .nil) .nil)) .nil) .nil)) (.node (.node (.node (.node (.node (.node (.leaf s72_64) .nil) .nil) (.node (.node (.leaf ziu) .nil) .nil)) .nil) .nil) (.node (.node (.node .nil (.node (.node (.leaf zhR) .nil) .nil)) .nil) .nil))) (.node (.node (.node (.node (.node (.node (.node (.leaf s72_32) .nil) .nil) .nil) .nil) .nil) (.node (.node (.node .nil (.node (.node (.leaf zh7) .nil) .nil)) .nil) .nil)) (.node (.node (.node (.node (.node (.node (.leaf s72_96) .nil) .nil) .nil) .nil) .nil) (.node (.node (.node .nil (.node (.node (.leaf zhB) .nil) .nil)) .nil) .nil)))) (.node (.node (.node .nil (.node (.node (.node .nil (.node (.node (.leaf zif) .nil) .nil)) .nil) .nil)) (.node (.node (.node (.node (.node (.node (.leaf s72_80) .nil) .nil) .nil) .nil) .nil) (.node (.node (.node .nil (.node (.node (.leaf zhJ) .nil) .nil)) .nil) .nil))) (.node (.node (.node (.node (.node (.node (.node (.leaf s72_48) .nil) .nil) .nil) .nil) .nil) (.node (.node (.node .nil (.node (.node (.leaf zhZ) .nil) .nil)) .nil) .nil)) (.node (.node (.node (.node (.node (.node (.leaf zlD) .nil) .nil) .nil) .nil) .nil) (.node (.node (.node .nil (.node (.node (.leaf zht) .nil) .nil)) .nil) .nil))))) (.node (.node (.node (.node (.node (.node (.node .nil (.node (.node (.leaf ziw) .nil) .nil)) .nil) .nil) (.node (.node (.node .nil (.node (.node (.leaf zij) .nil) .nil)) .nil) .nil)) (.node (.node (.node (.node (.node (.node (.leaf s72_72) .nil) .nil) (.node (.node (.leaf ziq) .nil) .nil)) .nil) .nil) (.node (.node (.node .nil (.node (.node (.leaf zhN) .nil) .nil)) .nil) .nil))) (.node (.node (.node (.node (.node (.node (.node (.leaf s72_40) .nil) .nil) .nil) .nil) .nil) (.node (.node (.node .nil (.node (.node (.leaf zh3) .nil) .nil)) .nil) .nil)) (.node (.node (.node (.node (.node (.node (.leaf zlF) .nil) .nil) .nil) .nil) .nil) (.node (.node (.node .nil (.node (.node (.leaf zhx) .nil) .nil)) .nil) .nil)))) (.node (.node (.node .nil (.node (.node (.node .nil (.node (.node (.leaf zib) .nil) .nil)) .nil) .nil)) (.node (.node (.node (.node (.node (.node (.leaf s72_88) .nil) .nil) .nil) .nil) .nil) (.node (.node (.node .nil (.node (.node (.leaf zhF) .nil) .nil)) .nil) .nil))) (.node (.node (.node (.node (.node (.node (.node (.leaf s72_56) .nil) .nil) .nil) .nil) .nil) (.node (.node (.node .nil (.node (.node (.leaf zhV) .nil) .nil)) .nil) .nil)) (.node (.node (.node (.node (.node (.node (.leaf zlB) .nil) .nil) .nil) .nil) .nil) (.node (.node (.node .nil (.node (.node (.leaf zhp) .nil) .nil)) .nil) .nil)))))) (.node (.node (.node (.node (.node (.node (.node (.node .nil (.node (.node (.leaf ziy) .nil) .nil)) .nil) .nil) (.node (.node (.node .nil (.node (.node (.leaf zil) .nil) .nil)) .nil) .nil)) (.node (.node (.node (.node (.node (.node (.leaf s72_68) .nil) .nil) (.node (.node (.leaf zis) .nil) .nil)) .nil) .nil) (.node (.node (.node .nil (.node (.node (.leaf zhP) .nil) .nil)) .nil) .nil))) (.node (.node (.node (.node (.node (.node (.node (.leaf s72_36) .nil) .nil) .nil) .nil) .nil) (.node (.node (.node .nil (.node (.node (.leaf zh5) .nil) .nil)) .nil) .nil)) (.node (.node (.node (.node (.node (.node (.leaf zlG) .nil) .nil) .nil) .nil) .nil) (.node (.node (.node .nil (.node (.node (.leaf zhz) .nil) .nil)) .nil) .nil)))) (.node (.node (.node .nil (.node (.node (.node .nil (.node (.node (.leaf zid) .nil) .nil)) .nil) .nil)) (.node (.node (.node (.node (.node (.node (.leaf s72_84) .nil) .nil) .nil) .nil) .nil) (.node (.node (.node .nil (.node (.node (.leaf zhH) .nil) .nil)) .nil) .nil))) (.node (.node (.node (.node (.node (.node (.node (.leaf s72_52) .nil) .nil) .nil) .nil) .nil) (.node (.node (.node .nil (.node (.node (.leaf zhX) .nil) .nil)) .nil) .nil)) (.node (.node (.node (.node (.node (.node (.leaf zlC) .nil) .nil) .nil) .nil) .nil) (.node (.node (.node .nil (.node (.node (.leaf zhr) .nil) .nil)) .nil) .nil))))) (.node (.node (.node (.node .nil (.node (.node (.node .nil (.node (.node (.leaf zih) .nil) .nil)) .nil) .nil)) (.node (.node (.node (.node (.node (.node (.leaf s72_76) .nil) .nil) .nil) .nil) .nil) (.node (.node (.node .nil (.node (.node (.leaf zhL) .nil) .nil)) .nil) .nil))) (.node (.node (.node (.node (.node (.node (.node (.leaf s72_44) .nil) .nil) .nil) .nil) .nil) (.node (.node (.node .nil (.node (.node (.leaf zh1) .nil) .nil)) .nil) .nil)) (.node (.node (.node (.node (.node (.node (.leaf zlE) .nil) .nil) .nil) .nil) .nil) (.node (.node (.node .nil (.node (.node (.leaf zhv) .nil) .nil)) .nil) .nil)))) (.node (.node (.node .nil (.node (.node (.node .nil (.node (.node (.leaf zh9) .nil) .nil)) .nil) .nil)) (.node (.node (.node (.node (.node (.node (.leaf s72_92) .nil) .nil) .nil) .nil) .nil) (.node (.node (.node .nil (.node (.node (.leaf zhD) .nil) .nil)) .nil) .nil))) (.node (.node (.node (.node (.node (.node (.node (.leaf s72_60) .nil) .nil) .nil) .nil) .nil) (.node (.node (.node .nil (.node (.node (.leaf zhT) .nil) .nil)) .nil) .nil)) (.node (.node (.node (.node (.node (.node (.leaf zlA) .nil) .nil) .nil) .nil) .nil) (.node (.node (.node .nil (.node (.node (.leaf zhn) .nil) .nil)) .nil) .nil))))))) .nil) .nil)
theorem zos:TrP (j2 ye 72 zf) smT72:=⟨⟨⟨⟨⟨⟨⟨⟨⟨⟨⟨trivial,⟨⟨(zc ziz),trivial⟩,trivial⟩⟩,trivial⟩,trivial⟩,⟨⟨⟨trivial,⟨⟨(zc zim),trivial⟩,trivial⟩⟩,trivial⟩,trivial⟩⟩,⟨⟨⟨⟨⟨⟨(zc zmO),trivial⟩,trivial⟩,⟨⟨(zc zit),trivial⟩,trivial⟩⟩,trivial⟩,trivial⟩,⟨⟨⟨trivial,⟨⟨(zc zhQ),trivial⟩,trivial⟩⟩,trivial⟩,trivial⟩⟩⟩,⟨⟨⟨⟨⟨⟨⟨(zc zmW),trivial⟩,trivial⟩,trivial⟩,trivial⟩,trivial⟩,⟨⟨⟨trivial,⟨⟨(zc zh6),trivial⟩,trivial⟩⟩,trivial⟩,trivial⟩⟩,⟨⟨⟨⟨⟨⟨(zc zmG),trivial⟩,trivial⟩,trivial⟩,trivial⟩,trivial⟩,⟨⟨⟨trivial,⟨⟨(zc zhA),trivial⟩,trivial⟩⟩,trivial⟩,trivial⟩⟩⟩⟩,⟨⟨⟨trivial,⟨⟨⟨trivial,⟨⟨(zc zie),trivial⟩,trivial⟩⟩,trivial⟩,trivial⟩⟩,⟨⟨⟨⟨⟨⟨(zc zmK),trivial⟩,trivial⟩,trivial⟩,trivial⟩,trivial⟩,⟨⟨⟨trivial,⟨⟨(zc zhI),trivial⟩,trivial⟩⟩,trivial⟩,trivial⟩⟩⟩,⟨⟨⟨⟨⟨⟨⟨(zc zmS),trivial⟩,trivial⟩,trivial⟩,trivial⟩,trivial⟩,⟨⟨⟨trivial,⟨⟨(zc zhY),trivial⟩,trivial⟩⟩,trivial⟩,trivial⟩⟩,⟨⟨⟨⟨⟨⟨(zc zkI),trivial⟩,trivial⟩,trivial⟩,trivial⟩,trivial⟩,⟨⟨⟨trivial,⟨⟨(zc zhs),trivial⟩,trivial⟩⟩,trivial⟩,trivial⟩⟩⟩⟩⟩,⟨⟨⟨⟨⟨⟨⟨trivial,⟨⟨(zc ziv),trivial⟩,trivial⟩⟩,trivial⟩,trivial⟩,⟨⟨⟨trivial,⟨⟨(zc zii),trivial⟩,trivial⟩⟩,trivial⟩,trivial⟩⟩,⟨⟨⟨⟨⟨⟨(zc zmM),trivial⟩,trivial⟩,⟨⟨(zc zio),trivial⟩,trivial⟩⟩,trivial⟩,trivial⟩,⟨⟨⟨trivial,⟨⟨(zc zhM),trivial⟩,trivial⟩⟩,trivial⟩,trivial⟩⟩⟩,⟨⟨⟨⟨⟨⟨⟨(zc zmU),trivial⟩,trivial⟩,trivial⟩,trivial⟩,trivial⟩,⟨⟨⟨trivial,⟨⟨(zc zh2),trivial⟩,trivial⟩⟩,trivial⟩,trivial⟩⟩,⟨⟨⟨⟨⟨⟨(zc zkK),trivial⟩,trivial⟩,trivial⟩,trivial⟩,trivial⟩,⟨⟨⟨trivial,⟨⟨(zc zhw),trivial⟩,trivial⟩⟩,trivial⟩,trivial⟩⟩⟩⟩,⟨⟨⟨trivial,⟨⟨⟨trivial,⟨⟨(zc zia),trivial⟩,trivial⟩⟩,trivial⟩,trivial⟩⟩,⟨⟨⟨⟨⟨⟨(zc zmI),trivial⟩,trivial⟩,trivial⟩,trivial⟩,trivial⟩,⟨⟨⟨trivial,⟨⟨(zc zhE),trivial⟩,trivial⟩⟩,trivial⟩,trivial⟩⟩⟩,⟨⟨⟨⟨⟨⟨⟨(zc zmQ),trivial⟩,trivial⟩,trivial⟩,trivial⟩,trivial⟩,⟨⟨⟨trivial,⟨⟨(zc zhU),trivial⟩,trivial⟩⟩,trivial⟩,trivial⟩⟩,⟨⟨⟨⟨⟨⟨(zc zkG),trivial⟩,trivial⟩,trivial⟩,trivial⟩,trivial⟩,⟨⟨⟨trivial,⟨⟨(zc zho),trivial⟩,trivial⟩⟩,trivial⟩,trivial⟩⟩⟩⟩⟩⟩,⟨⟨⟨⟨⟨⟨⟨⟨trivial,⟨⟨(zc zix),trivial⟩,trivial⟩⟩,trivial⟩,trivial⟩,⟨⟨⟨trivial,⟨⟨(zc zik),trivial⟩,trivial⟩⟩,trivial⟩,trivial⟩⟩,⟨⟨⟨⟨⟨⟨(zc zmN),trivial⟩,trivial⟩,⟨⟨(zc zir),trivial⟩,trivial⟩⟩,trivial⟩,trivial⟩,⟨⟨⟨trivial,⟨⟨(zc zhO),trivial⟩,trivial⟩⟩,trivial⟩,trivial⟩⟩⟩,⟨⟨⟨⟨⟨⟨⟨(zc zmV),trivial⟩,trivial⟩,trivial⟩,trivial⟩,trivial⟩,⟨⟨⟨trivial,⟨⟨(zc zh4),trivial⟩,trivial⟩⟩,trivial⟩,trivial⟩⟩,⟨⟨⟨⟨⟨⟨(zc zkL),trivial⟩,trivial⟩,trivial⟩,trivial⟩,trivial⟩,⟨⟨⟨trivial,⟨⟨(zc zhy),trivial⟩,trivial⟩⟩,trivial⟩,trivial⟩⟩⟩⟩,⟨⟨⟨trivial,⟨⟨⟨trivial,⟨⟨(zc zic),trivial⟩,trivial⟩⟩,trivial⟩,trivial⟩⟩,⟨⟨⟨⟨⟨⟨(zc zmJ),trivial⟩,trivial⟩,trivial⟩,trivial⟩,trivial⟩,⟨⟨⟨trivial,⟨⟨(zc zhG),trivial⟩,trivial⟩⟩,trivial⟩,trivial⟩⟩⟩,⟨⟨⟨⟨⟨⟨⟨(zc zmR),trivial⟩,trivial⟩,trivial⟩,trivial⟩,trivial⟩,⟨⟨⟨trivial,⟨⟨(zc zhW),trivial⟩,trivial⟩⟩,trivial⟩,trivial⟩⟩,⟨⟨⟨⟨⟨⟨(zc zkH),trivial⟩,trivial⟩,trivial⟩,trivial⟩,trivial⟩,⟨⟨⟨trivial,⟨⟨(zc zhq),trivial⟩,trivial⟩⟩,trivial⟩,trivial⟩⟩⟩⟩⟩,⟨⟨⟨⟨trivial,⟨⟨⟨trivial,⟨⟨(zc zig),trivial⟩,trivial⟩⟩,trivial⟩,trivial⟩⟩,⟨⟨⟨⟨⟨⟨(zc zmL),trivial⟩,trivial⟩,trivial⟩,trivial⟩,trivial⟩,⟨⟨⟨trivial,⟨⟨(zc zhK),trivial⟩,trivial⟩⟩,trivial⟩,trivial⟩⟩⟩,⟨⟨⟨⟨⟨⟨⟨(zc zmT),trivial⟩,trivial⟩,trivial⟩,trivial⟩,trivial⟩,⟨⟨⟨trivial,⟨⟨(zc zh0),trivial⟩,trivial⟩⟩,trivial⟩,trivial⟩⟩,⟨⟨⟨⟨⟨⟨(zc zkJ),trivial⟩,trivial⟩,trivial⟩,trivial⟩,trivial⟩,⟨⟨⟨trivial,⟨⟨(zc zhu),trivial⟩,trivial⟩⟩,trivial⟩,trivial⟩⟩⟩⟩,⟨⟨⟨trivial,⟨⟨⟨trivial,⟨⟨(zc zh8),trivial⟩,trivial⟩⟩,trivial⟩,trivial⟩⟩,⟨⟨⟨⟨⟨⟨(zc zmH),trivial⟩,trivial⟩,trivial⟩,trivial⟩,trivial⟩,⟨⟨⟨trivial,⟨⟨(zc zhC),trivial⟩,trivial⟩⟩,trivial⟩,trivial⟩⟩⟩,⟨⟨⟨⟨⟨⟨⟨(zc zmP),trivial⟩,trivial⟩,trivial⟩,trivial⟩,trivial⟩,⟨⟨⟨trivial,⟨⟨(zc zhS),trivial⟩,trivial⟩⟩,trivial⟩,trivial⟩⟩,⟨⟨⟨⟨⟨⟨(zc zkF),trivial⟩,trivial⟩,trivial⟩,trivial⟩,trivial⟩,⟨⟨⟨trivial,⟨⟨(zc zhm),trivial⟩,trivial⟩⟩,trivial⟩,trivial⟩⟩⟩⟩⟩⟩⟩,trivial⟩,trivial⟩
def sm72:Hk:=jV ye (ssT smT72) 72 zf
def smT101:Tr (List Sm):=(.node (.node (.node (.node .nil (.node (.node (.node (.node (.node (.node (.node (.node (.node (.leaf s101_8) .nil) .nil) .nil) .nil) .nil) .nil) .nil) .nil) .nil)) (.node (.node (.node (.node (.node (.node (.node (.node (.node (.node (.leaf s101_4) .nil) .nil) .nil) .nil) .nil) .nil) .nil) .nil) .nil) .nil)) (.node (.node (.node (.node (.node (.node (.node (.node (.node (.node (.node (.leaf s101_2) .nil) .nil) .nil) .nil) .nil) .nil) .nil) .nil) .nil) .nil) .nil)) (.node (.node (.node (.node (.node (.node (.node (.node (.node (.node (.node (.node (.leaf s101_1) .nil) .nil) .nil) .nil) .nil) .nil) .nil) .nil) (.node (.node (.node (.node (.node (.node (.node (.node (.leaf zlI) .nil) .nil) .nil) .nil) .nil) .nil) .nil) .nil)) (.node (.node (.node (.node (.node .nil (.node (.node (.node (.node (.leaf zji) .nil) .nil) .nil) .nil)) .nil) .nil) .nil) .nil)) .nil) .nil))
theorem zmB:TrP (j2 zdU 101 zf) smT101:=⟨⟨⟨⟨trivial,⟨⟨⟨⟨⟨⟨⟨⟨⟨(zc zm1),trivial⟩,trivial⟩,trivial⟩,trivial⟩,trivial⟩,trivial⟩,trivial⟩,trivial⟩,trivial⟩⟩,⟨⟨⟨⟨⟨⟨⟨⟨⟨⟨(zc zm2),trivial⟩,trivial⟩,trivial⟩,trivial⟩,trivial⟩,trivial⟩,trivial⟩,trivial⟩,trivial⟩,trivial⟩⟩,⟨⟨⟨⟨⟨⟨⟨⟨⟨⟨⟨(zc zm3),trivial⟩,trivial⟩,trivial⟩,trivial⟩,trivial⟩,trivial⟩,trivial⟩,trivial⟩,trivial⟩,trivial⟩,trivial⟩⟩,⟨⟨⟨⟨⟨⟨⟨⟨⟨⟨⟨⟨(zc zm4),trivial⟩,trivial⟩,trivial⟩,trivial⟩,trivial⟩,trivial⟩,trivial⟩,trivial⟩,⟨⟨⟨⟨⟨⟨⟨⟨(zc zkN),trivial⟩,trivial⟩,trivial⟩,trivial⟩,trivial⟩,trivial⟩,trivial⟩,trivial⟩⟩,⟨⟨⟨⟨⟨trivial,⟨⟨⟨⟨(zc zjh),trivial⟩,trivial⟩,trivial⟩,trivial⟩⟩,trivial⟩,trivial⟩,trivial⟩,trivial⟩⟩,trivial⟩,trivial⟩⟩
def zeJ:Hk:=jV zdU (ssT smT101) 101 zf
def smT243:Tr (List Sm):=(.node (.node (.node (.node .nil (.node (.node (.node (.node (.node .nil (.node (.node .nil (.node (.node (.leaf zfM) .nil) .nil)) .nil)) .nil) .nil) .nil) .nil)) .nil) .nil) .nil)
theorem zmA:TrP (j2 mc243 243 zf) smT243:=⟨⟨⟨⟨trivial,⟨⟨⟨⟨⟨trivial,⟨⟨trivial,⟨⟨(zc zgr),trivial⟩,trivial⟩⟩,trivial⟩⟩,trivial⟩,trivial⟩,trivial⟩,trivial⟩⟩,trivial⟩,trivial⟩,trivial⟩
def zdS:Hk:=jV mc243 (ssT smT243) 243 zf
def smT245:Tr (List Sm):=(.node (.node (.node (.node (.node (.node (.node (.node (.node .nil (.node (.node .nil (.node (.node (.leaf zfL) .nil) .nil)) .nil)) .nil) .nil) .nil) .nil) .nil) .nil) .nil) .nil)
theorem zmz:TrP (j2 mc245 245 zf) smT245:=⟨⟨⟨⟨⟨⟨⟨⟨⟨trivial,⟨⟨trivial,⟨⟨(zc zgq),trivial⟩,trivial⟩⟩,trivial⟩⟩,trivial⟩,trivial⟩,trivial⟩,trivial⟩,trivial⟩,trivial⟩,trivial⟩,trivial⟩
def zcH:Hk:=jV mc245 (ssT smT245) 245 zf
def smT291:Tr (List Sm):=(.node (.node (.node (.node (.node (.node (.node (.node (.node .nil (.node (.node .nil (.node (.node (.leaf zfK) .nil) .nil)) .nil)) .nil) .nil) .nil) .nil) .nil) .nil) .nil) .nil)
theorem zmy:TrP (j2 mc291 291 zf) smT291:=⟨⟨⟨⟨⟨⟨⟨⟨⟨trivial,⟨⟨trivial,⟨⟨(zc zgp),trivial⟩,trivial⟩⟩,trivial⟩⟩,trivial⟩,trivial⟩,trivial⟩,trivial⟩,trivial⟩,trivial⟩,trivial⟩,trivial⟩
def zcc:Hk:=jV mc291 (ssT smT291) 291 zf
variable {E:Env}
def LenB (E:Env):Prop:=zd E Tryz.prog (fun G l h fa k=>bc (Nat.beq G 197) (lenX l h fa k) 1)
def AnyB (E:Env):Prop:=zd E Tryz.prog (fun G l h fa k=>bc (Nat.beq G 239) (anyX l h fa k) 1)
structure LenOk (E:Env):Prop where
 len:LenB E
 any:AnyB E
def ju (E:Env):Prop:=∀ E':Env,(∀ q,q≠7->E'.s q=E.s q)->LenOk E'
theorem ju.one (h:ju E):LenOk E:=h E (fun _ _=>rfl)
theorem yC {C:Nat->Option Hk} {a:Nat} {s:Hk} (hs:zd E Tryz.prog (fun G l h fa k=>bc (Nat.beq G a) (s l h fa k) 1))
  (hC:∀ F t,C F=some t->zd E Tryz.prog (fun G l h fa k=>bc (Nat.beq G F) (t l h fa k) 1)):∀ F t,bc (Nat.beq F a) (some s) (C F)=some t->zd E Tryz.prog (fun G l h fa k=>bc (Nat.beq G F) (t l h fa k) 1):=by
 intro F t h
 cases e:Nat.beq F a with
 | true=>
  rw[e]at h
  have h:some s=some t:=h
  cases h
  have e:F=a:=by simpa using e
  subst e
  exact hs
 | false=>rw[e]at h;exact hC F t h
theorem zqg:∀ F t,(none:Option Hk)=some t->zd E Tryz.prog (fun G l h fa k=>bc (Nat.beq G F) (t l h fa k) 1):=fun F t h=>by cases h
theorem hk0_ok (hlen:LenOk E):∀ F t,hk0 F=some t->zd E Tryz.prog (fun G l h fa k=>bc (Nat.beq G F) (t l h fa k) 1):=yC (C:=fun F=>(bc (Nat.beq F 239) (some anyX) none)) (hlen.len) (yC (C:=fun F=>none) (hlen.any) (zqg))
theorem cx0_ok (hlen:LenOk E):CxOk E Tryz.prog (zk Tryz.prog) cx0:=⟨zr,yB,fun F i h=>zct h,hk0_ok hlen⟩
theorem jJ (hlen:LenOk E):zd E Tryz.prog zf:=zag (cx0_ok hlen) 100
theorem hk0_okA (hlen:ju E):∀ F t,hk0 F=some t->zd E Tryz.prog (fun G l h fa k=>bc (Nat.beq G F) (t l h fa k) 1):=hk0_ok hlen.one
def hkH0 (F:Nat):Option Hk:=(bc (Nat.beq F 15) (some sm15) (bc (Nat.beq F 19) (some sm19) (bc (Nat.beq F 37) (some sm37) (bc (Nat.beq F 48) (some sm48) (bc (Nat.beq F 52) (some sm52) (bc (Nat.beq F 72) (some sm72) (bc (Nat.beq F 101) (some zeJ) (bc (Nat.beq F 243) (some zdS) (bc (Nat.beq F 245) (some zcH) (bc (Nat.beq F 291) (some zcc) (hk0 F)))))))))))
theorem hkH0_ok (hlen:ju E):∀ F t,hkH0 F=some t->zd E Tryz.prog (fun G l h fa k=>bc (Nat.beq G F) (t l h fa k) 1):=yC (C:=fun F=>(bc (Nat.beq F 19) (some sm19) (bc (Nat.beq F 37) (some sm37) (bc (Nat.beq F 48) (some sm48) (bc (Nat.beq F 52) (some sm52) (bc (Nat.beq F 72) (some sm72) (bc (Nat.beq F 101) (some zeJ) (bc (Nat.beq F 243) (some zdS) (bc (Nat.beq F 245) (some zcH) (bc (Nat.beq F 291) (some zcc) (hk0 F))))))))))) (zcb (fun E' h=>jJ (hlen E' h)) zoA) (yC (C:=fun F=>(bc (Nat.beq F 37) (some sm37) (bc (Nat.beq F 48) (some sm48) (bc (Nat.beq F 52) (some sm52) (bc (Nat.beq F 72) (some sm72) (bc (Nat.beq F 101) (some zeJ) (bc (Nat.beq F 243) (some zdS) (bc (Nat.beq F 245) (some zcH) (bc (Nat.beq F 291) (some zcc) (hk0 F)))))))))) (zcb (fun E' h=>jJ (hlen E' h)) zoz) (yC (C:=fun F=>(bc (Nat.beq F 48) (some sm48) (bc (Nat.beq F 52) (some sm52) (bc (Nat.beq F 72) (some sm72) (bc (Nat.beq F 101) (some zeJ) (bc (Nat.beq F 243) (some zdS) (bc (Nat.beq F 245) (some zcH) (bc (Nat.beq F 291) (some zcc) (hk0 F))))))))) (zcb (fun E' h=>jJ (hlen E' h)) zov) (yC (C:=fun F=>(bc (Nat.beq F 52) (some sm52) (bc (Nat.beq F 72) (some sm72) (bc (Nat.beq F 101) (some zeJ) (bc (Nat.beq F 243) (some zdS) (bc (Nat.beq F 245) (some zcH) (bc (Nat.beq F 291) (some zcc) (hk0 F)))))))) (zcb (fun E' h=>jJ (hlen E' h)) zou) (yC (C:=fun F=>(bc (Nat.beq F 72) (some sm72) (bc (Nat.beq F 101) (some zeJ) (bc (Nat.beq F 243) (some zdS) (bc (Nat.beq F 245) (some zcH) (bc (Nat.beq F 291) (some zcc) (hk0 F))))))) (zcb (fun E' h=>jJ (hlen E' h)) zot) (yC (C:=fun F=>(bc (Nat.beq F 101) (some zeJ) (bc (Nat.beq F 243) (some zdS) (bc (Nat.beq F 245) (some zcH) (bc (Nat.beq F 291) (some zcc) (hk0 F)))))) (zcb (fun E' h=>jJ (hlen E' h)) zos) (yC (C:=fun F=>(bc (Nat.beq F 243) (some zdS) (bc (Nat.beq F 245) (some zcH) (bc (Nat.beq F 291) (some zcc) (hk0 F))))) (zcb (fun E' h=>jJ (hlen E' h)) zmB) (yC (C:=fun F=>(bc (Nat.beq F 245) (some zcH) (bc (Nat.beq F 291) (some zcc) (hk0 F)))) (zcb (fun E' h=>jJ (hlen E' h)) zmA) (yC (C:=fun F=>(bc (Nat.beq F 291) (some zcc) (hk0 F))) (zcb (fun E' h=>jJ (hlen E' h)) zmz) (yC (C:=fun F=>(hk0 F)) (zcb (fun E' h=>jJ (hlen E' h)) zmy) (hk0_okA hlen))))))))))
def hkG (F:Nat):Option Hk:=(hkH0 F)
theorem hkG_ok (hlen:ju E):∀ F t,hkG F=some t->zd E Tryz.prog (fun G l h fa k=>bc (Nat.beq G F) (t l h fa k) 1):=hkH0_ok hlen
def cxG:Cx:=⟨fnX,hkG,20000⟩
def callG:zW:=zd1 cxG 100
theorem cxG_ok (hlen:ju E):CxOk E Tryz.prog (zk Tryz.prog) cxG:=⟨zr,yB,fun F i h=>zct h,hkG_ok hlen⟩
theorem zj9 (hlen:ju E):zd E Tryz.prog callG:=zag (cxG_ok hlen) 100
def ct0_154:Hk:=cntT xn154.body xn154.res callG 154 20000
def zmi:Hk:=cntT xn164.body xn164.res callG 164 20000
def hkN0 (F:Nat):Option Hk:=(bc (Nat.beq F 154) (some ct0_154) (bc (Nat.beq F 164) (some zmi) (hkG F)))
theorem zl9 (hlen:ju E):∀ F t,hkN0 F=some t->zd E Tryz.prog (fun G l h fa k=>bc (Nat.beq G F) (t l h fa k) 1):=yC (C:=fun F=>(bc (Nat.beq F 164) (some zmi) (hkG F))) (zlm zr yB (zj9 hlen) Tryz.func154 Tryz.call154 cn154 (drB wn154)) (yC (C:=fun F=>(hkG F)) (zlm zr yB (zj9 hlen) Tryz.func164 Tryz.call164 cn164 (drB wn164)) (hkG_ok hlen))
def cxN0:Cx:=⟨fnX,hkN0,20000⟩
def callN0:zW:=zd1 cxN0 100
theorem cxN0_ok (hlen:ju E):CxOk E Tryz.prog (zk Tryz.prog) cxN0:=⟨zr,yB,fun F i h=>zct h,zl9 hlen⟩
theorem znV (hlen:ju E):zd E Tryz.prog callN0:=zag (cxN0_ok hlen) 100
def ct1_82:Hk:=cntT xn82.body xn82.res callN0 82 20000
def zgP (F:Nat):Option Hk:=(bc (Nat.beq F 82) (some ct1_82) (hkN0 F))
theorem zl8 (hlen:ju E):∀ F t,zgP F=some t->zd E Tryz.prog (fun G l h fa k=>bc (Nat.beq G F) (t l h fa k) 1):=yC (C:=fun F=>(hkN0 F)) (zlm zr yB (znV hlen) Tryz.func82 Tryz.call82 cn82 (drB wn82)) (zl9 hlen)
def cxN1:Cx:=⟨fnX,zgP,20000⟩
def zas:zW:=zd1 cxN1 100
theorem cxN1_ok (hlen:ju E):CxOk E Tryz.prog (zk Tryz.prog) cxN1:=⟨zr,yB,fun F i h=>zct h,zl8 hlen⟩
theorem y8 (hlen:ju E):zd E Tryz.prog zas:=zag (cxN1_ok hlen) 100
def zkE:zdd:=subT yc94 rs94 zas 94 20000 zbH
def zkD:zdd:=subT yc95 rs95 zas 95 20000 zbH
def zhe (F:Nat):Option zdd:=(bc (Nat.beq F 94) (some zkE) (bc (Nat.beq F 95) (some zkD) none))
theorem zeH (hlen:ju E) {s:LS} {yid:Ev.P} {hand:zd8} (hh:zcg E Tryz.prog (zA E s yid) yid hand):SubA E Tryz.prog (zA E s yid) yid hand zhe:=by
 intro G t h
 unfold zhe at h
 cases e94':Nat.beq G 94 with
 | true=>
  rw[e94']at h
  have h:some zkE=some t:=h
  cases h
  have e:G=94:=by simpa using e94'
  subst e
  refine⟨Tryz.call94,fun l hp fa k hk hfa=>?_⟩
  have hy:=y94
  split at hy
  ·rename_i c hc
   unfold zkE at hk
   rw[<- hy]at hk
   exact zgl zr yB (y8 hlen) Tryz.func94 hc e94 s hand yid l hp fa k hh zaF hk hfa
  ·rename_i hc
   exact absurd hc (by have : Tryz.f94.body.isSome = true := by kernel_rfl
                       intro hn;rw[hn]at this;cases this)
 | false=>
 rw[e94']at h
 cases e95':Nat.beq G 95 with
 | true=>
  rw[e95']at h
  have h:some zkD=some t:=h
  cases h
  have e:G=95:=by simpa using e95'
  subst e
  refine⟨Tryz.call95,fun l hp fa k hk hfa=>?_⟩
  have hy:=y95
  split at hy
  ·rename_i c hc
   unfold zkD at hk
   rw[<- hy]at hk
   exact zgl zr yB (y8 hlen) Tryz.func95 hc e95 s hand yid l hp fa k hh zaF hk hfa
  ·rename_i hc
   exact absurd hc (by have : Tryz.f95.body.isSome = true := by kernel_rfl
                       intro hn;rw[hn]at this;cases this)
 | false=>
 rw[e95']at h
 cases h
def zk9:zde:=itrT yc91 zas 91 20000 zhe
def zgM:zde:=itrT yc232 zas 232 20000 zhe
def zgL:zde:=itrT yc241 zas 241 20000 zhe
def zdW (F:Nat):Option zde:=(bc (Nat.beq F 91) (some zk9) (bc (Nat.beq F 232) (some zgM) (bc (Nat.beq F 241) (some zgL) none)))
theorem za5 (hlen:ju E):zmq E Tryz.prog zdW:=by
 intro G it h
 unfold zdW at h
 cases e91':Nat.beq G 91 with
 | true=>
  rw[e91']at h
  have h:some zk9=some it:=h
  cases h
  have e:G=91:=by simpa using e91'
  subst e
  refine⟨Tryz.call91,fun s hand yid l hp fa k hh hk hfa=>?_⟩
  have hy:=y91
  split at hy
  ·rename_i c hc
   unfold zk9 at hk
   rw[<- hy]at hk
   exact zdx zr yB (y8 hlen) Tryz.func91 hc e91 s hand yid l hp fa k hh (zeH hlen hh) hk hfa
  ·rename_i hc
   exact absurd hc (by have : Tryz.f91.body.isSome = true := by kernel_rfl
                       intro hn;rw[hn]at this;cases this)
 | false=>
 rw[e91']at h
 cases e232':Nat.beq G 232 with
 | true=>
  rw[e232']at h
  have h:some zgM=some it:=h
  cases h
  have e:G=232:=by simpa using e232'
  subst e
  refine⟨Tryz.call232,fun s hand yid l hp fa k hh hk hfa=>?_⟩
  have hy:=y232
  split at hy
  ·rename_i c hc
   unfold zgM at hk
   rw[<- hy]at hk
   exact zdx zr yB (y8 hlen) Tryz.func232 hc e232 s hand yid l hp fa k hh (zeH hlen hh) hk hfa
  ·rename_i hc
   exact absurd hc (by have : Tryz.f232.body.isSome = true := by kernel_rfl
                       intro hn;rw[hn]at this;cases this)
 | false=>
 rw[e232']at h
 cases e241':Nat.beq G 241 with
 | true=>
  rw[e241']at h
  have h:some zgL=some it:=h
  cases h
  have e:G=241:=by simpa using e241'
  subst e
  refine⟨Tryz.call241,fun s hand yid l hp fa k hh hk hfa=>?_⟩
  have hy:=y241
  split at hy
  ·rename_i c hc
   unfold zgL at hk
   rw[<- hy]at hk
   exact zdx zr yB (y8 hlen) Tryz.func241 hc e241 s hand yid l hp fa k hh (zeH hlen hh) hk hfa
  ·rename_i hc
   exact absurd hc (by have : Tryz.f241.body.isSome = true := by kernel_rfl
                       intro hn;rw[hn]at this;cases this)
 | false=>
 rw[e241']at h
 cases h
def zkR:Hk:=rfnT yc24 rs24 zas 24 20000 zdW
theorem zm9 (hlen:ju E):zd E Tryz.prog (fun G l h fa k=>bc (Nat.beq G 24) (zkR l h fa k) 1):=by
 have hy:=y24
 split at hy
 ·rename_i c hc
  unfold zkR
  rw[<- hy]
  exact zcl zr yB (y8 hlen) (za5 hlen) Tryz.func24 Tryz.call24 hc e24
 ·rename_i hc
  exact absurd hc (by have : Tryz.f24.body.isSome = true := by kernel_rfl
                      intro hn;rw[hn]at this;cases this)
def zgu:Hk:=rfnT yc71 rs71 zas 71 20000 zdW
theorem zm8 (hlen:ju E):zd E Tryz.prog (fun G l h fa k=>bc (Nat.beq G 71) (zgu l h fa k) 1):=by
 have hy:=y71
 split at hy
 ·rename_i c hc
  unfold zgu
  rw[<- hy]
  exact zcl zr yB (y8 hlen) (za5 hlen) Tryz.func71 Tryz.call71 hc e71
 ·rename_i hc
  exact absurd hc (by have : Tryz.f71.body.isSome = true := by kernel_rfl
                      intro hn;rw[hn]at this;cases this)
def zeM:Hk:=rfnT yc80 rs80 zas 80 20000 zdW
theorem zm7 (hlen:ju E):zd E Tryz.prog (fun G l h fa k=>bc (Nat.beq G 80) (zeM l h fa k) 1):=by
 have hy:=y80
 split at hy
 ·rename_i c hc
  unfold zeM
  rw[<- hy]
  exact zcl zr yB (y8 hlen) (za5 hlen) Tryz.func80 Tryz.call80 hc e80
 ·rename_i hc
  exact absurd hc (by have : Tryz.f80.body.isSome = true := by kernel_rfl
                      intro hn;rw[hn]at this;cases this)
def zdn:Hk:=rfnT yc84 rs84 zas 84 20000 zdW
theorem zm6 (hlen:ju E):zd E Tryz.prog (fun G l h fa k=>bc (Nat.beq G 84) (zdn l h fa k) 1):=by
 have hy:=y84
 split at hy
 ·rename_i c hc
  unfold zdn
  rw[<- hy]
  exact zcl zr yB (y8 hlen) (za5 hlen) Tryz.func84 Tryz.call84 hc e84
 ·rename_i hc
  exact absurd hc (by have : Tryz.f84.body.isSome = true := by kernel_rfl
                      intro hn;rw[hn]at this;cases this)
def zbf:Hk:=rfnT yc170 rs170 zas 170 20000 zdW
theorem zkS (hlen:ju E):zd E Tryz.prog (fun G l h fa k=>bc (Nat.beq G 170) (zbf l h fa k) 1):=by
 have hy:=y170
 split at hy
 ·rename_i c hc
  unfold zbf
  rw[<- hy]
  exact zcl zr yB (y8 hlen) (za5 hlen) Tryz.func170 Tryz.call170 hc e170
 ·rename_i hc
  exact absurd hc (by have : Tryz.f170.body.isSome = true := by kernel_rfl
                      intro hn;rw[hn]at this;cases this)
def zaQ:Hk:=rfnT yc294 rs294 zas 294 20000 zdW
theorem zkQ (hlen:ju E):zd E Tryz.prog (fun G l h fa k=>bc (Nat.beq G 294) (zaQ l h fa k) 1):=by
 have hy:=y294
 split at hy
 ·rename_i c hc
  unfold zaQ
  rw[<- hy]
  exact zcl zr yB (y8 hlen) (za5 hlen) Tryz.func294 Tryz.call294 hc e294
 ·rename_i hc
  exact absurd hc (by have : Tryz.f294.body.isSome = true := by kernel_rfl
                      intro hn;rw[hn]at this;cases this)
def hkR0 (F:Nat):Option Hk:=(bc (Nat.beq F 24) (some zkR) (bc (Nat.beq F 71) (some zgu) (bc (Nat.beq F 80) (some zeM) (bc (Nat.beq F 84) (some zdn) (bc (Nat.beq F 170) (some zbf) (bc (Nat.beq F 294) (some zaQ) (zgP F)))))))
theorem zl7 (hlen:ju E):∀ F t,hkR0 F=some t->zd E Tryz.prog (fun G l h fa k=>bc (Nat.beq G F) (t l h fa k) 1):=yC (C:=fun F=>(bc (Nat.beq F 71) (some zgu) (bc (Nat.beq F 80) (some zeM) (bc (Nat.beq F 84) (some zdn) (bc (Nat.beq F 170) (some zbf) (bc (Nat.beq F 294) (some zaQ) (zgP F))))))) (zm9 hlen) (yC (C:=fun F=>(bc (Nat.beq F 80) (some zeM) (bc (Nat.beq F 84) (some zdn) (bc (Nat.beq F 170) (some zbf) (bc (Nat.beq F 294) (some zaQ) (zgP F)))))) (zm8 hlen) (yC (C:=fun F=>(bc (Nat.beq F 84) (some zdn) (bc (Nat.beq F 170) (some zbf) (bc (Nat.beq F 294) (some zaQ) (zgP F))))) (zm7 hlen) (yC (C:=fun F=>(bc (Nat.beq F 170) (some zbf) (bc (Nat.beq F 294) (some zaQ) (zgP F)))) (zm6 hlen) (yC (C:=fun F=>(bc (Nat.beq F 294) (some zaQ) (zgP F))) (zkS hlen) (yC (C:=fun F=>(zgP F)) (zkQ hlen) (zl8 hlen))))))
def cxR0:Cx:=⟨fnX,hkR0,20000⟩
def zcx:zW:=zd1 cxR0 100
theorem cxR0_ok (hlen:ju E):CxOk E Tryz.prog (zk Tryz.prog) cxR0:=⟨zr,yB,fun F i h=>zct h,zl7 hlen⟩
theorem zaB (hlen:ju E):zd E Tryz.prog zcx:=zag (cxR0_ok hlen) 100
def zkC:zdd:=subT yc94 rs94 zcx 94 20000 zbH
def zkB:zdd:=subT yc95 rs95 zcx 95 20000 zbH
def zhd (F:Nat):Option zdd:=(bc (Nat.beq F 94) (some zkC) (bc (Nat.beq F 95) (some zkB) none))
theorem zeG (hlen:ju E) {s:LS} {yid:Ev.P} {hand:zd8} (hh:zcg E Tryz.prog (zA E s yid) yid hand):SubA E Tryz.prog (zA E s yid) yid hand zhd:=by
 intro G t h
 unfold zhd at h
 cases e94':Nat.beq G 94 with
 | true=>
  rw[e94']at h
  have h:some zkC=some t:=h
  cases h
  have e:G=94:=by simpa using e94'
  subst e
  refine⟨Tryz.call94,fun l hp fa k hk hfa=>?_⟩
  have hy:=y94
  split at hy
  ·rename_i c hc
   unfold zkC at hk
   rw[<- hy]at hk
   exact zgl zr yB (zaB hlen) Tryz.func94 hc e94 s hand yid l hp fa k hh zaF hk hfa
  ·rename_i hc
   exact absurd hc (by have : Tryz.f94.body.isSome = true := by kernel_rfl
                       intro hn;rw[hn]at this;cases this)
 | false=>
 rw[e94']at h
 cases e95':Nat.beq G 95 with
 | true=>
  rw[e95']at h
  have h:some zkB=some t:=h
  cases h
  have e:G=95:=by simpa using e95'
  subst e
  refine⟨Tryz.call95,fun l hp fa k hk hfa=>?_⟩
  have hy:=y95
  split at hy
  ·rename_i c hc
   unfold zkB at hk
   rw[<- hy]at hk
   exact zgl zr yB (zaB hlen) Tryz.func95 hc e95 s hand yid l hp fa k hh zaF hk hfa
  ·rename_i hc
   exact absurd hc (by have : Tryz.f95.body.isSome = true := by kernel_rfl
                       intro hn;rw[hn]at this;cases this)
 | false=>
 rw[e95']at h
 cases h
def zk8:zde:=itrT yc91 zcx 91 20000 zhd
def zgK:zde:=itrT yc232 zcx 232 20000 zhd
def zgJ:zde:=itrT yc241 zcx 241 20000 zhd
def itrX1 (F:Nat):Option zde:=(bc (Nat.beq F 91) (some zk8) (bc (Nat.beq F 232) (some zgK) (bc (Nat.beq F 241) (some zgJ) none)))
theorem zp5 (hlen:ju E):zmq E Tryz.prog itrX1:=by
 intro G it h
 unfold itrX1 at h
 cases e91':Nat.beq G 91 with
 | true=>
  rw[e91']at h
  have h:some zk8=some it:=h
  cases h
  have e:G=91:=by simpa using e91'
  subst e
  refine⟨Tryz.call91,fun s hand yid l hp fa k hh hk hfa=>?_⟩
  have hy:=y91
  split at hy
  ·rename_i c hc
   unfold zk8 at hk
   rw[<- hy]at hk
   exact zdx zr yB (zaB hlen) Tryz.func91 hc e91 s hand yid l hp fa k hh (zeG hlen hh) hk hfa
  ·rename_i hc
   exact absurd hc (by have : Tryz.f91.body.isSome = true := by kernel_rfl
                       intro hn;rw[hn]at this;cases this)
 | false=>
 rw[e91']at h
 cases e232':Nat.beq G 232 with
 | true=>
  rw[e232']at h
  have h:some zgK=some it:=h
  cases h
  have e:G=232:=by simpa using e232'
  subst e
  refine⟨Tryz.call232,fun s hand yid l hp fa k hh hk hfa=>?_⟩
  have hy:=y232
  split at hy
  ·rename_i c hc
   unfold zgK at hk
   rw[<- hy]at hk
   exact zdx zr yB (zaB hlen) Tryz.func232 hc e232 s hand yid l hp fa k hh (zeG hlen hh) hk hfa
  ·rename_i hc
   exact absurd hc (by have : Tryz.f232.body.isSome = true := by kernel_rfl
                       intro hn;rw[hn]at this;cases this)
 | false=>
 rw[e232']at h
 cases e241':Nat.beq G 241 with
 | true=>
  rw[e241']at h
  have h:some zgJ=some it:=h
  cases h
  have e:G=241:=by simpa using e241'
  subst e
  refine⟨Tryz.call241,fun s hand yid l hp fa k hh hk hfa=>?_⟩
  have hy:=y241
  split at hy
  ·rename_i c hc
   unfold zgJ at hk
   rw[<- hy]at hk
   exact zdx zr yB (zaB hlen) Tryz.func241 hc e241 s hand yid l hp fa k hh (zeG hlen hh) hk hfa
  ·rename_i hc
   exact absurd hc (by have : Tryz.f241.body.isSome = true := by kernel_rfl
                       intro hn;rw[hn]at this;cases this)
 | false=>
 rw[e241']at h
 cases h
def zkP:Hk:=rfnT yc83 rs83 zcx 83 20000 itrX1
theorem zm5 (hlen:ju E):zd E Tryz.prog (fun G l h fa k=>bc (Nat.beq G 83) (zkP l h fa k) 1):=by
 have hy:=y83
 split at hy
 ·rename_i c hc
  unfold zkP
  rw[<- hy]
  exact zcl zr yB (zaB hlen) (zp5 hlen) Tryz.func83 Tryz.call83 hc e83
 ·rename_i hc
  exact absurd hc (by have : Tryz.f83.body.isSome = true := by kernel_rfl
                      intro hn;rw[hn]at this;cases this)
def hkR1 (F:Nat):Option Hk:=(bc (Nat.beq F 83) (some zkP) (hkR0 F))
theorem zl6 (hlen:ju E):∀ F t,hkR1 F=some t->zd E Tryz.prog (fun G l h fa k=>bc (Nat.beq G F) (t l h fa k) 1):=yC (C:=fun F=>(hkR0 F)) (zm5 hlen) (zl7 hlen)
def cxR1:Cx:=⟨fnX,hkR1,20000⟩
def zlq:zW:=zd1 cxR1 100
theorem zmh (hlen:ju E):CxOk E Tryz.prog (zk Tryz.prog) cxR1:=⟨zr,yB,fun F i h=>zct h,zl6 hlen⟩
theorem zga (hlen:ju E):zd E Tryz.prog zlq:=zag (zmh hlen) 100
def df13:Hk:=dfnT x13.body x13.res zlq (dcallT cxR1 zlq) 13 20000
def hk1 (F:Nat):Option Hk:=(bc (Nat.beq F 13) (some df13) (hkR1 F))
theorem hk1_ok (hlen:ju E):∀ F t,hk1 F=some t->zd E Tryz.prog (fun G l h fa k=>bc (Nat.beq G F) (t l h fa k) 1):=yC (C:=fun F=>(hkR1 F)) (dfn_ok zr yB (zga hlen) (znQ (zmh hlen) (zga hlen)) Tryz.func13 Tryz.call13 cx13 (drB wx13)) (zl6 hlen)
def cx1:Cx:=⟨fnX,hk1,20000⟩
def zaW:zW:=zd1 cx1 100
theorem zgV (hlen:ju E):CxOk E Tryz.prog (zk Tryz.prog) cx1:=⟨zr,yB,fun F i h=>zct h,hk1_ok hlen⟩
theorem zfk (hlen:ju E):zd E Tryz.prog zaW:=zag (zgV hlen) 100
end Go.Ev.X
end
