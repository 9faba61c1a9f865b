import Derived.Test.YtcohamkngfehlaaGreatDoorSC
import Derived.Test.YtcohamkngfehlaaGreatDoorSSa
set_option linter.unusedSimpArgs false
set_option linter.unusedVariables false
set_option maxRecDepth 100000
noncomputable section
namespace Go.Ev.X
open Go Go.Ev Go.Proofs
def smT15:Tr (List Sm):=(.node (.node (.node (.node (.node (.node (.node (.node (.node (.node (.node .nil (.node (.node (.leaf zjt) .nil) .nil)) .nil) .nil) .nil) (.node (.node (.node (.node .nil (.node (.node (.leaf zjr) .nil) .nil)) .nil) .nil) .nil)) .nil) .nil) .nil) .nil) .nil) .nil)
theorem zoS:TrP (zac mc15 15 zf) smT15:=⟨⟨⟨⟨⟨⟨⟨⟨⟨⟨⟨trivial,⟨⟨(zd zjs),trivial⟩,trivial⟩⟩,trivial⟩,trivial⟩,trivial⟩,⟨⟨⟨⟨trivial,⟨⟨(zd zjq),trivial⟩,trivial⟩⟩,trivial⟩,trivial⟩,trivial⟩⟩,trivial⟩,trivial⟩,trivial⟩,trivial⟩,trivial⟩,trivial⟩
def sm15:Hk:=jX mc15 (ssT smT15) 15 zf
def smT19:Tr (List Sm):=(.node (.node (.node (.node (.node (.node (.node .nil (.node (.node (.node (.node .nil (.node (.node (.leaf zjp) .nil) .nil)) .nil) .nil) .nil)) .nil) .nil) .nil) .nil) .nil) .nil)
theorem zoR:TrP (zac mc19 19 zf) smT19:=⟨⟨⟨⟨⟨⟨⟨trivial,⟨⟨⟨⟨trivial,⟨⟨(zd zjo),trivial⟩,trivial⟩⟩,trivial⟩,trivial⟩,trivial⟩⟩,trivial⟩,trivial⟩,trivial⟩,trivial⟩,trivial⟩,trivial⟩
def sm19:Hk:=jX mc19 (ssT smT19) 19 zf
def smT37:Tr (List Sm):=(.node (.node (.node (.node (.node .nil (.node (.node (.node (.node .nil (.node (.node .nil (.node (.node (.leaf zjn) .nil) .nil)) .nil)) .nil) .nil) .nil)) (.node (.node (.node (.node (.node (.node (.node (.node (.node (.leaf s37_8) .nil) .nil) .nil) .nil) .nil) .nil) .nil) .nil) .nil)) (.node (.node (.node (.node (.node (.node (.node (.node (.node (.node (.leaf s37_4) .nil) .nil) .nil) .nil) .nil) .nil) .nil) .nil) (.node (.node (.node (.node .nil (.node (.node .nil (.node (.node (.leaf zjf) .nil) .nil)) .nil)) .nil) .nil) .nil)) .nil)) (.node (.node (.node (.node (.node (.node (.node (.node (.node (.node (.node (.leaf s37_2) .nil) .nil) .nil) .nil) .nil) .nil) .nil) .nil) (.node (.node (.node (.node .nil (.node (.node .nil (.node (.node (.leaf zjj) .nil) .nil)) .nil)) .nil) .nil) .nil)) .nil) (.node (.node .nil (.node (.node (.node (.node .nil (.node (.node .nil (.node (.node (.leaf zjb) .nil) .nil)) .nil)) .nil) .nil) .nil)) .nil))) (.node (.node (.node (.node (.node (.node (.node (.node (.node (.node (.node (.node (.leaf s37_1) .nil) .nil) .nil) .nil) .nil) .nil) .nil) .nil) (.node (.node (.node (.node (.node (.node (.node (.node (.leaf s37_17) .nil) .nil) .nil) .nil) (.node (.node .nil (.node (.node (.leaf zjl) .nil) .nil)) .nil)) .nil) .nil) .nil)) (.node (.node (.node (.node (.node .nil (.node (.node (.node (.node (.leaf zlX) .nil) .nil) .nil) .nil)) .nil) .nil) .nil) .nil)) (.node (.node .nil (.node (.node (.node (.node .nil (.node (.node .nil (.node (.node (.leaf zjd) .nil) .nil)) .nil)) .nil) .nil) .nil)) .nil)) (.node (.node (.node .nil (.node (.node (.node (.node .nil (.node (.node .nil (.node (.node (.leaf zjh) .nil) .nil)) .nil)) .nil) .nil) .nil)) .nil) (.node (.node .nil (.node (.node (.node (.node .nil (.node (.node .nil (.node (.node (.leaf zi9) .nil) .nil)) .nil)) .nil) .nil) .nil)) .nil))))
theorem zoN:TrP (zac zcb 37 zf) smT37:=⟨⟨⟨⟨⟨trivial,⟨⟨⟨⟨trivial,⟨⟨trivial,⟨⟨(zd zjm),trivial⟩,trivial⟩⟩,trivial⟩⟩,trivial⟩,trivial⟩,trivial⟩⟩,⟨⟨⟨⟨⟨⟨⟨⟨⟨(zd zpk),trivial⟩,trivial⟩,trivial⟩,trivial⟩,trivial⟩,trivial⟩,trivial⟩,trivial⟩,trivial⟩⟩,⟨⟨⟨⟨⟨⟨⟨⟨⟨⟨(zd zpl),trivial⟩,trivial⟩,trivial⟩,trivial⟩,trivial⟩,trivial⟩,trivial⟩,trivial⟩,⟨⟨⟨⟨trivial,⟨⟨trivial,⟨⟨(zd zje),trivial⟩,trivial⟩⟩,trivial⟩⟩,trivial⟩,trivial⟩,trivial⟩⟩,trivial⟩⟩,⟨⟨⟨⟨⟨⟨⟨⟨⟨⟨⟨(zd zpm),trivial⟩,trivial⟩,trivial⟩,trivial⟩,trivial⟩,trivial⟩,trivial⟩,trivial⟩,⟨⟨⟨⟨trivial,⟨⟨trivial,⟨⟨(zd zji),trivial⟩,trivial⟩⟩,trivial⟩⟩,trivial⟩,trivial⟩,trivial⟩⟩,trivial⟩,⟨⟨trivial,⟨⟨⟨⟨trivial,⟨⟨trivial,⟨⟨(zd zja),trivial⟩,trivial⟩⟩,trivial⟩⟩,trivial⟩,trivial⟩,trivial⟩⟩,trivial⟩⟩⟩,⟨⟨⟨⟨⟨⟨⟨⟨⟨⟨⟨⟨(zd zpn),trivial⟩,trivial⟩,trivial⟩,trivial⟩,trivial⟩,trivial⟩,trivial⟩,trivial⟩,⟨⟨⟨⟨⟨⟨⟨⟨(zd znh),trivial⟩,trivial⟩,trivial⟩,trivial⟩,⟨⟨trivial,⟨⟨(zd zjk),trivial⟩,trivial⟩⟩,trivial⟩⟩,trivial⟩,trivial⟩,trivial⟩⟩,⟨⟨⟨⟨⟨trivial,⟨⟨⟨⟨(zd zk2),trivial⟩,trivial⟩,trivial⟩,trivial⟩⟩,trivial⟩,trivial⟩,trivial⟩,trivial⟩⟩,⟨⟨trivial,⟨⟨⟨⟨trivial,⟨⟨trivial,⟨⟨(zd zjc),trivial⟩,trivial⟩⟩,trivial⟩⟩,trivial⟩,trivial⟩,trivial⟩⟩,trivial⟩⟩,⟨⟨⟨trivial,⟨⟨⟨⟨trivial,⟨⟨trivial,⟨⟨(zd zjg),trivial⟩,trivial⟩⟩,trivial⟩⟩,trivial⟩,trivial⟩,trivial⟩⟩,trivial⟩,⟨⟨trivial,⟨⟨⟨⟨trivial,⟨⟨trivial,⟨⟨(zd zi8),trivial⟩,trivial⟩⟩,trivial⟩⟩,trivial⟩,trivial⟩,trivial⟩⟩,trivial⟩⟩⟩⟩
def sm37:Hk:=jX zcb (ssT smT37) 37 zf
def smT48:Tr (List Sm):=(.node (.node (.node (.node (.node (.node (.node (.node (.node (.node (.node .nil (.node (.node (.leaf zi7) .nil) .nil)) .nil) .nil) .nil) (.node (.node (.node (.node .nil (.node (.node (.leaf zi5) .nil) .nil)) .nil) .nil) .nil)) (.node (.node (.node (.node (.node (.node (.node (.leaf s48_32) .nil) .nil) .nil) .nil) .nil) .nil) .nil)) .nil) (.node (.node (.node (.node .nil (.node (.node (.node .nil (.node (.node (.leaf ziZ) .nil) .nil)) .nil) .nil)) (.node (.node (.node (.node .nil (.node (.node (.leaf zi3) .nil) .nil)) .nil) .nil) (.node (.node (.node .nil (.node (.node (.leaf ziV) .nil) .nil)) .nil) .nil))) .nil) .nil)) (.node (.node (.node (.node (.node .nil (.node (.node (.node .nil (.node (.node (.leaf zi1) .nil) .nil)) .nil) .nil)) (.node .nil (.node (.node (.node .nil (.node (.node (.leaf ziX) .nil) .nil)) .nil) .nil))) (.node (.node (.node (.node (.node (.node (.node (.leaf s48_36) .nil) .nil) .nil) .nil) .nil) .nil) .nil)) .nil) (.node .nil (.node .nil (.node (.node (.node (.node (.node (.node (.node (.leaf s48_60) .nil) .nil) .nil) .nil) .nil) .nil) .nil))))) .nil) .nil)
theorem zoM:TrP (zac zef 48 zf) smT48:=⟨⟨⟨⟨⟨⟨⟨⟨⟨⟨⟨trivial,⟨⟨(zd zi6),trivial⟩,trivial⟩⟩,trivial⟩,trivial⟩,trivial⟩,⟨⟨⟨⟨trivial,⟨⟨(zd zi4),trivial⟩,trivial⟩⟩,trivial⟩,trivial⟩,trivial⟩⟩,⟨⟨⟨⟨⟨⟨⟨(zd zng),trivial⟩,trivial⟩,trivial⟩,trivial⟩,trivial⟩,trivial⟩,trivial⟩⟩,trivial⟩,⟨⟨⟨⟨trivial,⟨⟨⟨trivial,⟨⟨(zd ziY),trivial⟩,trivial⟩⟩,trivial⟩,trivial⟩⟩,⟨⟨⟨⟨trivial,⟨⟨(zd zi2),trivial⟩,trivial⟩⟩,trivial⟩,trivial⟩,⟨⟨⟨trivial,⟨⟨(zd ziU),trivial⟩,trivial⟩⟩,trivial⟩,trivial⟩⟩⟩,trivial⟩,trivial⟩⟩,⟨⟨⟨⟨⟨trivial,⟨⟨⟨trivial,⟨⟨(zd zi0),trivial⟩,trivial⟩⟩,trivial⟩,trivial⟩⟩,⟨trivial,⟨⟨⟨trivial,⟨⟨(zd ziW),trivial⟩,trivial⟩⟩,trivial⟩,trivial⟩⟩⟩,⟨⟨⟨⟨⟨⟨⟨(zd znf),trivial⟩,trivial⟩,trivial⟩,trivial⟩,trivial⟩,trivial⟩,trivial⟩⟩,trivial⟩,⟨trivial,⟨trivial,⟨⟨⟨⟨⟨⟨⟨(zd zne),trivial⟩,trivial⟩,trivial⟩,trivial⟩,trivial⟩,trivial⟩,trivial⟩⟩⟩⟩⟩,trivial⟩,trivial⟩
def sm48:Hk:=jX zef (ssT smT48) 48 zf
def smT52:Tr (List Sm):=(.node (.node (.node (.node (.node (.node (.node (.node (.node (.node (.node .nil (.node (.node (.leaf ziT) .nil) .nil)) .nil) .nil) .nil) (.node (.node (.node (.node .nil (.node (.node (.leaf ziR) .nil) .nil)) .nil) .nil) .nil)) .nil) .nil) .nil) .nil) .nil) .nil)
theorem zoL:TrP (zac mc52 52 zf) smT52:=⟨⟨⟨⟨⟨⟨⟨⟨⟨⟨⟨trivial,⟨⟨(zd ziS),trivial⟩,trivial⟩⟩,trivial⟩,trivial⟩,trivial⟩,⟨⟨⟨⟨trivial,⟨⟨(zd ziQ),trivial⟩,trivial⟩⟩,trivial⟩,trivial⟩,trivial⟩⟩,trivial⟩,trivial⟩,trivial⟩,trivial⟩,trivial⟩,trivial⟩
def sm52:Hk:=jX mc52 (ssT smT52) 52 zf
def smT72:Tr (List Sm):=(.node (.node (.node (.node (.node (.node (.node (.node (.node (.node (.node .nil (.node (.node (.leaf ziP) .nil) .nil)) .nil) .nil) (.node (.node (.node .nil (.node (.node (.leaf ziD) .nil) .nil)) .nil) .nil)) (.node (.node (.node (.node (.node (.node (.leaf s72_64) .nil) .nil) (.node (.node (.leaf ziJ) .nil) .nil)) .nil) .nil) (.node (.node (.node .nil (.node (.node (.leaf zh6) .nil) .nil)) .nil) .nil))) (.node (.node (.node (.node (.node (.node (.node (.leaf s72_32) .nil) .nil) .nil) .nil) .nil) (.node (.node (.node .nil (.node (.node (.leaf zim) .nil) .nil)) .nil) .nil)) (.node (.node (.node (.node (.node (.node (.leaf s72_96) .nil) .nil) .nil) .nil) .nil) (.node (.node (.node .nil (.node (.node (.leaf zhQ) .nil) .nil)) .nil) .nil)))) (.node (.node (.node .nil (.node (.node (.node .nil (.node (.node (.leaf ziv) .nil) .nil)) .nil) .nil)) (.node (.node (.node (.node (.node (.node (.leaf s72_80) .nil) .nil) .nil) .nil) .nil) (.node (.node (.node .nil (.node (.node (.leaf zhY) .nil) .nil)) .nil) .nil))) (.node (.node (.node (.node (.node (.node (.node (.leaf s72_48) .nil) .nil) .nil) .nil) .nil) (.node (.node (.node .nil (.node (.node (.leaf zie) .nil) .nil)) .nil) .nil)) (.node (.node (.node (.node (.node (.node (.leaf zlT) .nil) .nil) .nil) .nil) .nil) (.node (.node (.node .nil (.node (.node (.leaf zhI) .nil) .nil)) .nil) .nil))))) (.node (.node (.node (.node (.node (.node (.node .nil (.node (.node (.leaf ziL) .nil) .nil)) .nil) .nil) (.node (.node (.node .nil (.node (.node (.leaf ziz) .nil) .nil)) .nil) .nil)) (.node (.node (.node (.node (.node (.node (.leaf s72_72) .nil) .nil) (.node (.node (.leaf ziF) .nil) .nil)) .nil) .nil) (.node (.node (.node .nil (.node (.node (.leaf zh2) .nil) .nil)) .nil) .nil))) (.node (.node (.node (.node (.node (.node (.node (.leaf s72_40) .nil) .nil) .nil) .nil) .nil) (.node (.node (.node .nil (.node (.node (.leaf zii) .nil) .nil)) .nil) .nil)) (.node (.node (.node (.node (.node (.node (.leaf zlV) .nil) .nil) .nil) .nil) .nil) (.node (.node (.node .nil (.node (.node (.leaf zhM) .nil) .nil)) .nil) .nil)))) (.node (.node (.node .nil (.node (.node (.node .nil (.node (.node (.leaf zir) .nil) .nil)) .nil) .nil)) (.node (.node (.node (.node (.node (.node (.leaf s72_88) .nil) .nil) .nil) .nil) .nil) (.node (.node (.node .nil (.node (.node (.leaf zhU) .nil) .nil)) .nil) .nil))) (.node (.node (.node (.node (.node (.node (.node (.leaf s72_56) .nil) .nil) .nil) .nil) .nil) (.node (.node (.node .nil (.node (.node (.leaf zia) .nil) .nil)) .nil) .nil)) (.node (.node (.node (.node (.node (.node (.leaf zlR) .nil) .nil) .nil) .nil) .nil) (.node (.node (.node .nil (.node (.node (.leaf zhE) .nil) .nil)) .nil) .nil)))))) (.node (.node (.node (.node (.node (.node (.node (.node .nil (.node (.node (.leaf ziN) .nil) .nil)) .nil) .nil) (.node (.node (.node .nil (.node (.node (.leaf ziB) .nil) .nil)) .nil) .nil)) (.node (.node (.node (.node (.node (.node (.leaf s72_68) .nil) .nil) (.node (.node (.leaf ziH) .nil) .nil)) .nil) .nil) (.node (.node (.node .nil (.node (.node (.leaf zh4) .nil) .nil)) .nil) .nil))) (.node (.node (.node (.node (.node (.node (.node (.leaf s72_36) .nil) .nil) .nil) .nil) .nil) (.node (.node (.node .nil (.node (.node (.leaf zik) .nil) .nil)) .nil) .nil)) (.node (.node (.node (.node (.node (.node (.leaf zlW) .nil) .nil) .nil) .nil) .nil) (.node (.node (.node .nil (.node (.node (.leaf zhO) .nil) .nil)) .nil) .nil)))) (.node (.node (.node .nil (.node (.node (.node .nil (.node (.node (.leaf zit) .nil) .nil)) .nil) .nil)) (.node (.node (.node (.node (.node (.node (.leaf s72_84) .nil) .nil) .nil) .nil) .nil) (.node (.node (.node .nil (.node (.node (.leaf zhW) .nil) .nil)) .nil) .nil))) (.node (.node (.node (.node (.node (.node (.node (.leaf s72_52) .nil) .nil) .nil) .nil) .nil) (.node (.node (.node .nil (.node (.node (.leaf zic) .nil) .nil)) .nil) .nil)) (.node (.node (.node (.node (.node (.node (.leaf zlS) .nil) .nil) .nil) .nil) .nil) (.node (.node (.node .nil (.node (.node (.leaf zhG) .nil) .nil)) .nil) .nil))))) (.node (.node (.node (.node .nil (.node (.node (.node .nil (.node (.node (.leaf zix) .nil) .nil)) .nil) .nil)) (.node (.node (.node (.node (.node (.node (.leaf s72_76) .nil) .nil) .nil) .nil) .nil) (.node (.node (.node .nil (.node (.node (.leaf zh0) .nil) .nil)) .nil) .nil))) (.node (.node (.node (.node (.node (.node (.node (.leaf s72_44) .nil) .nil) .nil) .nil) .nil) (.node (.node (.node .nil (.node (.node (.leaf zig) .nil) .nil)) .nil) .nil)) (.node (.node (.node (.node (.node (.node (.leaf zlU) .nil) .nil) .nil) .nil) .nil) (.node (.node (.node .nil (.node (.node (.leaf zhK) .nil) .nil)) .nil) .nil)))) (.node (.node (.node .nil (.node (.node (.node .nil (.node (.node (.leaf zio) .nil) .nil)) .nil) .nil)) (.node (.node (.node (.node (.node (.node (.leaf s72_92) .nil) .nil) .nil) .nil) .nil) (.node (.node (.node .nil (.node (.node (.leaf zhS) .nil) .nil)) .nil) .nil))) (.node (.node (.node (.node (.node (.node (.node (.leaf s72_60) .nil) .nil) .nil) .nil) .nil) (.node (.node (.node .nil (.node (.node (.leaf zh8) .nil) .nil)) .nil) .nil)) (.node (.node (.node (.node (.node (.node (.leaf zlQ) .nil) .nil) .nil) .nil) .nil) (.node (.node (.node .nil (.node (.node (.leaf zhC) .nil) .nil)) .nil) .nil))))))) .nil) .nil)
theorem zoK:TrP (zac yg 72 zf) smT72:=⟨⟨⟨⟨⟨⟨⟨⟨⟨⟨⟨trivial,⟨⟨(zd ziO),trivial⟩,trivial⟩⟩,trivial⟩,trivial⟩,⟨⟨⟨trivial,⟨⟨(zd ziC),trivial⟩,trivial⟩⟩,trivial⟩,trivial⟩⟩,⟨⟨⟨⟨⟨⟨(zd zm5),trivial⟩,trivial⟩,⟨⟨(zd ziI),trivial⟩,trivial⟩⟩,trivial⟩,trivial⟩,⟨⟨⟨trivial,⟨⟨(zd zh5),trivial⟩,trivial⟩⟩,trivial⟩,trivial⟩⟩⟩,⟨⟨⟨⟨⟨⟨⟨(zd znd),trivial⟩,trivial⟩,trivial⟩,trivial⟩,trivial⟩,⟨⟨⟨trivial,⟨⟨(zd zil),trivial⟩,trivial⟩⟩,trivial⟩,trivial⟩⟩,⟨⟨⟨⟨⟨⟨(zd zmX),trivial⟩,trivial⟩,trivial⟩,trivial⟩,trivial⟩,⟨⟨⟨trivial,⟨⟨(zd zhP),trivial⟩,trivial⟩⟩,trivial⟩,trivial⟩⟩⟩⟩,⟨⟨⟨trivial,⟨⟨⟨trivial,⟨⟨(zd ziu),trivial⟩,trivial⟩⟩,trivial⟩,trivial⟩⟩,⟨⟨⟨⟨⟨⟨(zd zm1),trivial⟩,trivial⟩,trivial⟩,trivial⟩,trivial⟩,⟨⟨⟨trivial,⟨⟨(zd zhX),trivial⟩,trivial⟩⟩,trivial⟩,trivial⟩⟩⟩,⟨⟨⟨⟨⟨⟨⟨(zd zm9),trivial⟩,trivial⟩,trivial⟩,trivial⟩,trivial⟩,⟨⟨⟨trivial,⟨⟨(zd zid),trivial⟩,trivial⟩⟩,trivial⟩,trivial⟩⟩,⟨⟨⟨⟨⟨⟨(zd zkY),trivial⟩,trivial⟩,trivial⟩,trivial⟩,trivial⟩,⟨⟨⟨trivial,⟨⟨(zd zhH),trivial⟩,trivial⟩⟩,trivial⟩,trivial⟩⟩⟩⟩⟩,⟨⟨⟨⟨⟨⟨⟨trivial,⟨⟨(zd ziK),trivial⟩,trivial⟩⟩,trivial⟩,trivial⟩,⟨⟨⟨trivial,⟨⟨(zd ziy),trivial⟩,trivial⟩⟩,trivial⟩,trivial⟩⟩,⟨⟨⟨⟨⟨⟨(zd zm3),trivial⟩,trivial⟩,⟨⟨(zd ziE),trivial⟩,trivial⟩⟩,trivial⟩,trivial⟩,⟨⟨⟨trivial,⟨⟨(zd zh1),trivial⟩,trivial⟩⟩,trivial⟩,trivial⟩⟩⟩,⟨⟨⟨⟨⟨⟨⟨(zd znb),trivial⟩,trivial⟩,trivial⟩,trivial⟩,trivial⟩,⟨⟨⟨trivial,⟨⟨(zd zih),trivial⟩,trivial⟩⟩,trivial⟩,trivial⟩⟩,⟨⟨⟨⟨⟨⟨(zd zk0),trivial⟩,trivial⟩,trivial⟩,trivial⟩,trivial⟩,⟨⟨⟨trivial,⟨⟨(zd zhL),trivial⟩,trivial⟩⟩,trivial⟩,trivial⟩⟩⟩⟩,⟨⟨⟨trivial,⟨⟨⟨trivial,⟨⟨(zd ziq),trivial⟩,trivial⟩⟩,trivial⟩,trivial⟩⟩,⟨⟨⟨⟨⟨⟨(zd zmZ),trivial⟩,trivial⟩,trivial⟩,trivial⟩,trivial⟩,⟨⟨⟨trivial,⟨⟨(zd zhT),trivial⟩,trivial⟩⟩,trivial⟩,trivial⟩⟩⟩,⟨⟨⟨⟨⟨⟨⟨(zd zm7),trivial⟩,trivial⟩,trivial⟩,trivial⟩,trivial⟩,⟨⟨⟨trivial,⟨⟨(zd zh9),trivial⟩,trivial⟩⟩,trivial⟩,trivial⟩⟩,⟨⟨⟨⟨⟨⟨(zd zkW),trivial⟩,trivial⟩,trivial⟩,trivial⟩,trivial⟩,⟨⟨⟨trivial,⟨⟨(zd zhD),trivial⟩,trivial⟩⟩,trivial⟩,trivial⟩⟩⟩⟩⟩⟩,⟨⟨⟨⟨⟨⟨⟨⟨trivial,⟨⟨(zd ziM),trivial⟩,trivial⟩⟩,trivial⟩,trivial⟩,⟨⟨⟨trivial,⟨⟨(zd ziA),trivial⟩,trivial⟩⟩,trivial⟩,trivial⟩⟩,⟨⟨⟨⟨⟨⟨(zd zm4),trivial⟩,trivial⟩,⟨⟨(zd ziG),trivial⟩,trivial⟩⟩,trivial⟩,trivial⟩,⟨⟨⟨trivial,⟨⟨(zd zh3),trivial⟩,trivial⟩⟩,trivial⟩,trivial⟩⟩⟩,⟨⟨⟨⟨⟨⟨⟨(zd znc),trivial⟩,trivial⟩,trivial⟩,trivial⟩,trivial⟩,⟨⟨⟨trivial,⟨⟨(zd zij),trivial⟩,trivial⟩⟩,trivial⟩,trivial⟩⟩,⟨⟨⟨⟨⟨⟨(zd zk1),trivial⟩,trivial⟩,trivial⟩,trivial⟩,trivial⟩,⟨⟨⟨trivial,⟨⟨(zd zhN),trivial⟩,trivial⟩⟩,trivial⟩,trivial⟩⟩⟩⟩,⟨⟨⟨trivial,⟨⟨⟨trivial,⟨⟨(zd zis),trivial⟩,trivial⟩⟩,trivial⟩,trivial⟩⟩,⟨⟨⟨⟨⟨⟨(zd zm0),trivial⟩,trivial⟩,trivial⟩,trivial⟩,trivial⟩,⟨⟨⟨trivial,⟨⟨(zd zhV),trivial⟩,trivial⟩⟩,trivial⟩,trivial⟩⟩⟩,⟨⟨⟨⟨⟨⟨⟨(zd zm8),trivial⟩,trivial⟩,trivial⟩,trivial⟩,trivial⟩,⟨⟨⟨trivial,⟨⟨(zd zib),trivial⟩,trivial⟩⟩,trivial⟩,trivial⟩⟩,⟨⟨⟨⟨⟨⟨(zd zkX),trivial⟩,trivial⟩,trivial⟩,trivial⟩,trivial⟩,⟨⟨⟨trivial,⟨⟨(zd zhF),trivial⟩,trivial⟩⟩,trivial⟩,trivial⟩⟩⟩⟩⟩,⟨⟨⟨⟨trivial,⟨⟨⟨trivial,⟨⟨(zd ziw),trivial⟩,trivial⟩⟩,trivial⟩,trivial⟩⟩,⟨⟨⟨⟨⟨⟨(zd zm2),trivial⟩,trivial⟩,trivial⟩,trivial⟩,trivial⟩,⟨⟨⟨trivial,⟨⟨(zd zhZ),trivial⟩,trivial⟩⟩,trivial⟩,trivial⟩⟩⟩,⟨⟨⟨⟨⟨⟨⟨(zd zna),trivial⟩,trivial⟩,trivial⟩,trivial⟩,trivial⟩,⟨⟨⟨trivial,⟨⟨(zd zif),trivial⟩,trivial⟩⟩,trivial⟩,trivial⟩⟩,⟨⟨⟨⟨⟨⟨(zd zkZ),trivial⟩,trivial⟩,trivial⟩,trivial⟩,trivial⟩,⟨⟨⟨trivial,⟨⟨(zd zhJ),trivial⟩,trivial⟩⟩,trivial⟩,trivial⟩⟩⟩⟩,⟨⟨⟨trivial,⟨⟨⟨trivial,⟨⟨(zd zin),trivial⟩,trivial⟩⟩,trivial⟩,trivial⟩⟩,⟨⟨⟨⟨⟨⟨(zd zmY),trivial⟩,trivial⟩,trivial⟩,trivial⟩,trivial⟩,⟨⟨⟨trivial,⟨⟨(zd zhR),trivial⟩,trivial⟩⟩,trivial⟩,trivial⟩⟩⟩,⟨⟨⟨⟨⟨⟨⟨(zd zm6),trivial⟩,trivial⟩,trivial⟩,trivial⟩,trivial⟩,⟨⟨⟨trivial,⟨⟨(zd zh7),trivial⟩,trivial⟩⟩,trivial⟩,trivial⟩⟩,⟨⟨⟨⟨⟨⟨(zd zkV),trivial⟩,trivial⟩,trivial⟩,trivial⟩,trivial⟩,⟨⟨⟨trivial,⟨⟨(zd zhB),trivial⟩,trivial⟩⟩,trivial⟩,trivial⟩⟩⟩⟩⟩⟩⟩,trivial⟩,trivial⟩
def sm72:Hk:=jX yg (ssT smT72) 72 zf
def smT101:Tr (List Sm):=(.node (.node (.node (.node .nil (.node (.node (.node (.node (.node (.node (.node (.node (.node (.leaf s101_8) .nil) .nil) .nil) .nil) .nil) .nil) .nil) .nil) .nil)) (.node (.node (.node (.node (.node (.node (.node (.node (.node (.node (.leaf s101_4) .nil) .nil) .nil) .nil) .nil) .nil) .nil) .nil) .nil) .nil)) (.node (.node (.node (.node (.node (.node (.node (.node (.node (.node (.node (.leaf s101_2) .nil) .nil) .nil) .nil) .nil) .nil) .nil) .nil) .nil) .nil) .nil)) (.node (.node (.node (.node (.node (.node (.node (.node (.node (.node (.node (.node (.leaf s101_1) .nil) .nil) .nil) .nil) .nil) .nil) .nil) .nil) (.node (.node (.node (.node (.node (.node (.node (.node (.leaf zlY) .nil) .nil) .nil) .nil) .nil) .nil) .nil) .nil)) (.node (.node (.node (.node (.node .nil (.node (.node (.node (.node (.leaf zjv) .nil) .nil) .nil) .nil)) .nil) .nil) .nil) .nil)) .nil) .nil))
theorem zmS:TrP (zac zd4 101 zf) smT101:=⟨⟨⟨⟨trivial,⟨⟨⟨⟨⟨⟨⟨⟨⟨(zd zni),trivial⟩,trivial⟩,trivial⟩,trivial⟩,trivial⟩,trivial⟩,trivial⟩,trivial⟩,trivial⟩⟩,⟨⟨⟨⟨⟨⟨⟨⟨⟨⟨(zd znj),trivial⟩,trivial⟩,trivial⟩,trivial⟩,trivial⟩,trivial⟩,trivial⟩,trivial⟩,trivial⟩,trivial⟩⟩,⟨⟨⟨⟨⟨⟨⟨⟨⟨⟨⟨(zd znk),trivial⟩,trivial⟩,trivial⟩,trivial⟩,trivial⟩,trivial⟩,trivial⟩,trivial⟩,trivial⟩,trivial⟩,trivial⟩⟩,⟨⟨⟨⟨⟨⟨⟨⟨⟨⟨⟨⟨(zd znl),trivial⟩,trivial⟩,trivial⟩,trivial⟩,trivial⟩,trivial⟩,trivial⟩,trivial⟩,⟨⟨⟨⟨⟨⟨⟨⟨(zd zk3),trivial⟩,trivial⟩,trivial⟩,trivial⟩,trivial⟩,trivial⟩,trivial⟩,trivial⟩⟩,⟨⟨⟨⟨⟨trivial,⟨⟨⟨⟨(zd zju),trivial⟩,trivial⟩,trivial⟩,trivial⟩⟩,trivial⟩,trivial⟩,trivial⟩,trivial⟩⟩,trivial⟩,trivial⟩⟩
def zeV:Hk:=jX zd4 (ssT smT101) 101 zf
def smT243:Tr (List Sm):=(.node (.node (.node (.node .nil (.node (.node (.node (.node (.node .nil (.node (.node .nil (.node (.node (.leaf zfW) .nil) .nil)) .nil)) .nil) .nil) .nil) .nil)) .nil) .nil) .nil)
theorem zmR:TrP (zac mc243 243 zf) smT243:=⟨⟨⟨⟨trivial,⟨⟨⟨⟨⟨trivial,⟨⟨trivial,⟨⟨(zd zgG),trivial⟩,trivial⟩⟩,trivial⟩⟩,trivial⟩,trivial⟩,trivial⟩,trivial⟩⟩,trivial⟩,trivial⟩,trivial⟩
def zd2:Hk:=jX mc243 (ssT smT243) 243 zf
def smT245:Tr (List Sm):=(.node (.node (.node (.node (.node (.node (.node (.node (.node .nil (.node (.node .nil (.node (.node (.leaf zfV) .nil) .nil)) .nil)) .nil) .nil) .nil) .nil) .nil) .nil) .nil) .nil)
theorem zmQ:TrP (zac mc245 245 zf) smT245:=⟨⟨⟨⟨⟨⟨⟨⟨⟨trivial,⟨⟨trivial,⟨⟨(zd zgF),trivial⟩,trivial⟩⟩,trivial⟩⟩,trivial⟩,trivial⟩,trivial⟩,trivial⟩,trivial⟩,trivial⟩,trivial⟩,trivial⟩
def zcO:Hk:=jX mc245 (ssT smT245) 245 zf
def smT291:Tr (List Sm):=(.node (.node (.node (.node (.node (.node (.node (.node (.node .nil (.node (.node .nil (.node (.node (.leaf zfU) .nil) .nil)) .nil)) .nil) .nil) .nil) .nil) .nil) .nil) .nil) .nil)
theorem zmP:TrP (zac mc291 291 zf) smT291:=⟨⟨⟨⟨⟨⟨⟨⟨⟨trivial,⟨⟨trivial,⟨⟨(zd zgE),trivial⟩,trivial⟩⟩,trivial⟩⟩,trivial⟩,trivial⟩,trivial⟩,trivial⟩,trivial⟩,trivial⟩,trivial⟩,trivial⟩
def zcj:Hk:=jX mc291 (ssT smT291) 291 zf
variable {E:Env}
def LenB (E:Env):Prop:=zc E Tryz.prog (fun G l h fa k=>bc (Nat.beq G 197) (lenX l h fa k) 1)
def AnyB (E:Env):Prop:=zc E Tryz.prog (fun G l h fa k=>bc (Nat.beq G 239) (anyX l h fa k) 1)
structure LenOk (E:Env):Prop where
 len:LenB E
 any:AnyB E
def jr (E:Env):Prop:=∀ E':Env,(∀ q,q≠7->E'.s q=E.s q)->LenOk E'
theorem jr.one (h:jr E):LenOk E:=h E (fun _ _=>rfl)
theorem yD {C:Nat->Option Hk} {a:Nat} {s:Hk} (hs:zc E Tryz.prog (fun G l h fa k=>bc (Nat.beq G a) (s l h fa k) 1))
  (hC:∀ F t,C F=some t->zc E Tryz.prog (fun G l h fa k=>bc (Nat.beq G F) (t l h fa k) 1)):∀ F t,bc (Nat.beq F a) (some s) (C F)=some t->zc E Tryz.prog (fun G l h fa k=>bc (Nat.beq G F) (t l h fa k) 1):=by
 intro F t h
 cases e:Nat.beq F a with
 | true=>
  rw[e]at h
  have h:some s=some t:=h
  cases h
  have e:F=a:=by simpa using e
  subst e
  exact hs
 | false=>rw[e]at h;exact hC F t h
theorem zqE:∀ F t,(none:Option Hk)=some t->zc E Tryz.prog (fun G l h fa k=>bc (Nat.beq G F) (t l h fa k) 1):=fun F t h=>by cases h
theorem hk0_ok (hlen:LenOk E):∀ F t,hk0 F=some t->zc E Tryz.prog (fun G l h fa k=>bc (Nat.beq G F) (t l h fa k) 1):=yD (C:=fun F=>(bc (Nat.beq F 239) (some anyX) none)) (hlen.len) (yD (C:=fun F=>none) (hlen.any) (zqE))
theorem cx0_ok (hlen:LenOk E):CxOk E Tryz.prog (zi Tryz.prog) cx0:=⟨zt,yC,fun F i h=>zcA h,hk0_ok hlen⟩
theorem jL (hlen:LenOk E):zc E Tryz.prog zf:=zaj (cx0_ok hlen) 100
theorem hk0_okA (hlen:jr E):∀ F t,hk0 F=some t->zc E Tryz.prog (fun G l h fa k=>bc (Nat.beq G F) (t l h fa k) 1):=hk0_ok hlen.one
def hkH0 (F:Nat):Option Hk:=(bc (Nat.beq F 15) (some sm15) (bc (Nat.beq F 19) (some sm19) (bc (Nat.beq F 37) (some sm37) (bc (Nat.beq F 48) (some sm48) (bc (Nat.beq F 52) (some sm52) (bc (Nat.beq F 72) (some sm72) (bc (Nat.beq F 101) (some zeV) (bc (Nat.beq F 243) (some zd2) (bc (Nat.beq F 245) (some zcO) (bc (Nat.beq F 291) (some zcj) (hk0 F)))))))))))
theorem hkH0_ok (hlen:jr E):∀ F t,hkH0 F=some t->zc E Tryz.prog (fun G l h fa k=>bc (Nat.beq G F) (t l h fa k) 1):=yD (C:=fun F=>(bc (Nat.beq F 19) (some sm19) (bc (Nat.beq F 37) (some sm37) (bc (Nat.beq F 48) (some sm48) (bc (Nat.beq F 52) (some sm52) (bc (Nat.beq F 72) (some sm72) (bc (Nat.beq F 101) (some zeV) (bc (Nat.beq F 243) (some zd2) (bc (Nat.beq F 245) (some zcO) (bc (Nat.beq F 291) (some zcj) (hk0 F))))))))))) (zci (fun E' h=>jL (hlen E' h)) zoS) (yD (C:=fun F=>(bc (Nat.beq F 37) (some sm37) (bc (Nat.beq F 48) (some sm48) (bc (Nat.beq F 52) (some sm52) (bc (Nat.beq F 72) (some sm72) (bc (Nat.beq F 101) (some zeV) (bc (Nat.beq F 243) (some zd2) (bc (Nat.beq F 245) (some zcO) (bc (Nat.beq F 291) (some zcj) (hk0 F)))))))))) (zci (fun E' h=>jL (hlen E' h)) zoR) (yD (C:=fun F=>(bc (Nat.beq F 48) (some sm48) (bc (Nat.beq F 52) (some sm52) (bc (Nat.beq F 72) (some sm72) (bc (Nat.beq F 101) (some zeV) (bc (Nat.beq F 243) (some zd2) (bc (Nat.beq F 245) (some zcO) (bc (Nat.beq F 291) (some zcj) (hk0 F))))))))) (zci (fun E' h=>jL (hlen E' h)) zoN) (yD (C:=fun F=>(bc (Nat.beq F 52) (some sm52) (bc (Nat.beq F 72) (some sm72) (bc (Nat.beq F 101) (some zeV) (bc (Nat.beq F 243) (some zd2) (bc (Nat.beq F 245) (some zcO) (bc (Nat.beq F 291) (some zcj) (hk0 F)))))))) (zci (fun E' h=>jL (hlen E' h)) zoM) (yD (C:=fun F=>(bc (Nat.beq F 72) (some sm72) (bc (Nat.beq F 101) (some zeV) (bc (Nat.beq F 243) (some zd2) (bc (Nat.beq F 245) (some zcO) (bc (Nat.beq F 291) (some zcj) (hk0 F))))))) (zci (fun E' h=>jL (hlen E' h)) zoL) (yD (C:=fun F=>(bc (Nat.beq F 101) (some zeV) (bc (Nat.beq F 243) (some zd2) (bc (Nat.beq F 245) (some zcO) (bc (Nat.beq F 291) (some zcj) (hk0 F)))))) (zci (fun E' h=>jL (hlen E' h)) zoK) (yD (C:=fun F=>(bc (Nat.beq F 243) (some zd2) (bc (Nat.beq F 245) (some zcO) (bc (Nat.beq F 291) (some zcj) (hk0 F))))) (zci (fun E' h=>jL (hlen E' h)) zmS) (yD (C:=fun F=>(bc (Nat.beq F 245) (some zcO) (bc (Nat.beq F 291) (some zcj) (hk0 F)))) (zci (fun E' h=>jL (hlen E' h)) zmR) (yD (C:=fun F=>(bc (Nat.beq F 291) (some zcj) (hk0 F))) (zci (fun E' h=>jL (hlen E' h)) zmQ) (yD (C:=fun F=>(hk0 F)) (zci (fun E' h=>jL (hlen E' h)) zmP) (hk0_okA hlen))))))))))
def hkG (F:Nat):Option Hk:=(hkH0 F)
theorem hkG_ok (hlen:jr E):∀ F t,hkG F=some t->zc E Tryz.prog (fun G l h fa k=>bc (Nat.beq G F) (t l h fa k) 1):=hkH0_ok hlen
def cxG:Cx:=⟨fnX,hkG,20000⟩
def callG:zw:=zeb cxG 100
theorem cxG_ok (hlen:jr E):CxOk E Tryz.prog (zi Tryz.prog) cxG:=⟨zt,yC,fun F i h=>zcA h,hkG_ok hlen⟩
theorem zko (hlen:jr E):zc E Tryz.prog callG:=zaj (cxG_ok hlen) 100
def ct0_154:Hk:=cntT xn154.body xn154.res callG 154 20000
def zmB:Hk:=cntT xn164.body xn164.res callG 164 20000
def hkN0 (F:Nat):Option Hk:=(bc (Nat.beq F 154) (some ct0_154) (bc (Nat.beq F 164) (some zmB) (hkG F)))
theorem zms (hlen:jr E):∀ F t,hkN0 F=some t->zc E Tryz.prog (fun G l h fa k=>bc (Nat.beq G F) (t l h fa k) 1):=yD (C:=fun F=>(bc (Nat.beq F 164) (some zmB) (hkG F))) (zlB zt yC (zko hlen) Tryz.func154 Tryz.call154 cn154 (drB wn154)) (yD (C:=fun F=>(hkG F)) (zlB zt yC (zko hlen) Tryz.func164 Tryz.call164 cn164 (drB wn164)) (hkG_ok hlen))
def cxN0:Cx:=⟨fnX,hkN0,20000⟩
def callN0:zw:=zeb cxN0 100
theorem cxN0_ok (hlen:jr E):CxOk E Tryz.prog (zi Tryz.prog) cxN0:=⟨zt,yC,fun F i h=>zcA h,zms hlen⟩
theorem zod (hlen:jr E):zc E Tryz.prog callN0:=zaj (cxN0_ok hlen) 100
def ct1_82:Hk:=cntT xn82.body xn82.res callN0 82 20000
def zg4 (F:Nat):Option Hk:=(bc (Nat.beq F 82) (some ct1_82) (hkN0 F))
theorem zmr (hlen:jr E):∀ F t,zg4 F=some t->zc E Tryz.prog (fun G l h fa k=>bc (Nat.beq G F) (t l h fa k) 1):=yD (C:=fun F=>(hkN0 F)) (zlB zt yC (zod hlen) Tryz.func82 Tryz.call82 cn82 (drB wn82)) (zms hlen)
def cxN1:Cx:=⟨fnX,zg4,20000⟩
def zaw:zw:=zeb cxN1 100
theorem cxN1_ok (hlen:jr E):CxOk E Tryz.prog (zi Tryz.prog) cxN1:=⟨zt,yC,fun F i h=>zcA h,zmr hlen⟩
theorem ja (hlen:jr E):zc E Tryz.prog zaw:=zaj (cxN1_ok hlen) 100
def zkU:zdn:=subT yc94 rs94 zaw 94 20000 zbN
def zkT:zdn:=subT yc95 rs95 zaw 95 20000 zbN
def zhu (F:Nat):Option zdn:=(bc (Nat.beq F 94) (some zkU) (bc (Nat.beq F 95) (some zkT) none))
theorem zeT (hlen:jr E) {s:LS} {yid:Ev.P} {hand:zej} (hh:zcn E Tryz.prog (zH E s yid) yid hand):SubA E Tryz.prog (zH E s yid) yid hand zhu:=by
 intro G t h
 unfold zhu at h
 cases e94':Nat.beq G 94 with
 | true=>
  rw[e94']at h
  have h:some zkU=some t:=h
  cases h
  have e:G=94:=by simpa using e94'
  subst e
  refine⟨Tryz.call94,fun l hp fa k hk hfa=>?_⟩
  have hy:=y94
  split at hy
  ·rename_i c hc
   unfold zkU at hk
   rw[<- hy]at hk
   exact zgy zt yC (ja hlen) Tryz.func94 hc e94 s hand yid l hp fa k hh zaI hk hfa
  ·rename_i hc
   exact absurd hc (by have : Tryz.f94.body.isSome = true := by kernel_rfl
                       intro hn;rw[hn]at this;cases this)
 | false=>
 rw[e94']at h
 cases e95':Nat.beq G 95 with
 | true=>
  rw[e95']at h
  have h:some zkT=some t:=h
  cases h
  have e:G=95:=by simpa using e95'
  subst e
  refine⟨Tryz.call95,fun l hp fa k hk hfa=>?_⟩
  have hy:=y95
  split at hy
  ·rename_i c hc
   unfold zkT at hk
   rw[<- hy]at hk
   exact zgy zt yC (ja hlen) Tryz.func95 hc e95 s hand yid l hp fa k hh zaI hk hfa
  ·rename_i hc
   exact absurd hc (by have : Tryz.f95.body.isSome = true := by kernel_rfl
                       intro hn;rw[hn]at this;cases this)
 | false=>
 rw[e95']at h
 cases h
def zln:zdo:=itrT yc91 zaw 91 20000 zhu
def zg1:zdo:=itrT yc232 zaw 232 20000 zhu
def zg0:zdo:=itrT yc241 zaw 241 20000 zhu
def zd6 (F:Nat):Option zdo:=(bc (Nat.beq F 91) (some zln) (bc (Nat.beq F 232) (some zg1) (bc (Nat.beq F 241) (some zg0) none)))
theorem za9 (hlen:jr E):zmK E Tryz.prog zd6:=by
 intro G it h
 unfold zd6 at h
 cases e91':Nat.beq G 91 with
 | true=>
  rw[e91']at h
  have h:some zln=some it:=h
  cases h
  have e:G=91:=by simpa using e91'
  subst e
  refine⟨Tryz.call91,fun s hand yid l hp fa k hh hk hfa=>?_⟩
  have hy:=y91
  split at hy
  ·rename_i c hc
   unfold zln at hk
   rw[<- hy]at hk
   exact zdG zt yC (ja hlen) Tryz.func91 hc e91 s hand yid l hp fa k hh (zeT hlen hh) hk hfa
  ·rename_i hc
   exact absurd hc (by have : Tryz.f91.body.isSome = true := by kernel_rfl
                       intro hn;rw[hn]at this;cases this)
 | false=>
 rw[e91']at h
 cases e232':Nat.beq G 232 with
 | true=>
  rw[e232']at h
  have h:some zg1=some it:=h
  cases h
  have e:G=232:=by simpa using e232'
  subst e
  refine⟨Tryz.call232,fun s hand yid l hp fa k hh hk hfa=>?_⟩
  have hy:=y232
  split at hy
  ·rename_i c hc
   unfold zg1 at hk
   rw[<- hy]at hk
   exact zdG zt yC (ja hlen) Tryz.func232 hc e232 s hand yid l hp fa k hh (zeT hlen hh) hk hfa
  ·rename_i hc
   exact absurd hc (by have : Tryz.f232.body.isSome = true := by kernel_rfl
                       intro hn;rw[hn]at this;cases this)
 | false=>
 rw[e232']at h
 cases e241':Nat.beq G 241 with
 | true=>
  rw[e241']at h
  have h:some zg0=some it:=h
  cases h
  have e:G=241:=by simpa using e241'
  subst e
  refine⟨Tryz.call241,fun s hand yid l hp fa k hh hk hfa=>?_⟩
  have hy:=y241
  split at hy
  ·rename_i c hc
   unfold zg0 at hk
   rw[<- hy]at hk
   exact zdG zt yC (ja hlen) Tryz.func241 hc e241 s hand yid l hp fa k hh (zeT hlen hh) hk hfa
  ·rename_i hc
   exact absurd hc (by have : Tryz.f241.body.isSome = true := by kernel_rfl
                       intro hn;rw[hn]at this;cases this)
 | false=>
 rw[e241']at h
 cases h
def zk6:Hk:=rfnT yc24 rs24 zaw 24 20000 zd6
theorem znq (hlen:jr E):zc E Tryz.prog (fun G l h fa k=>bc (Nat.beq G 24) (zk6 l h fa k) 1):=by
 have hy:=y24
 split at hy
 ·rename_i c hc
  unfold zk6
  rw[<- hy]
  exact zcs zt yC (ja hlen) (za9 hlen) Tryz.func24 Tryz.call24 hc e24
 ·rename_i hc
  exact absurd hc (by have : Tryz.f24.body.isSome = true := by kernel_rfl
                      intro hn;rw[hn]at this;cases this)
def zgJ:Hk:=rfnT yc71 rs71 zaw 71 20000 zd6
theorem znp (hlen:jr E):zc E Tryz.prog (fun G l h fa k=>bc (Nat.beq G 71) (zgJ l h fa k) 1):=by
 have hy:=y71
 split at hy
 ·rename_i c hc
  unfold zgJ
  rw[<- hy]
  exact zcs zt yC (ja hlen) (za9 hlen) Tryz.func71 Tryz.call71 hc e71
 ·rename_i hc
  exact absurd hc (by have : Tryz.f71.body.isSome = true := by kernel_rfl
                      intro hn;rw[hn]at this;cases this)
def zeY:Hk:=rfnT yc80 rs80 zaw 80 20000 zd6
theorem zno (hlen:jr E):zc E Tryz.prog (fun G l h fa k=>bc (Nat.beq G 80) (zeY l h fa k) 1):=by
 have hy:=y80
 split at hy
 ·rename_i c hc
  unfold zeY
  rw[<- hy]
  exact zcs zt yC (ja hlen) (za9 hlen) Tryz.func80 Tryz.call80 hc e80
 ·rename_i hc
  exact absurd hc (by have : Tryz.f80.body.isSome = true := by kernel_rfl
                      intro hn;rw[hn]at this;cases this)
def zdx:Hk:=rfnT yc84 rs84 zaw 84 20000 zd6
theorem znn (hlen:jr E):zc E Tryz.prog (fun G l h fa k=>bc (Nat.beq G 84) (zdx l h fa k) 1):=by
 have hy:=y84
 split at hy
 ·rename_i c hc
  unfold zdx
  rw[<- hy]
  exact zcs zt yC (ja hlen) (za9 hlen) Tryz.func84 Tryz.call84 hc e84
 ·rename_i hc
  exact absurd hc (by have : Tryz.f84.body.isSome = true := by kernel_rfl
                      intro hn;rw[hn]at this;cases this)
def zbk:Hk:=rfnT yc170 rs170 zaw 170 20000 zd6
theorem zk7 (hlen:jr E):zc E Tryz.prog (fun G l h fa k=>bc (Nat.beq G 170) (zbk l h fa k) 1):=by
 have hy:=y170
 split at hy
 ·rename_i c hc
  unfold zbk
  rw[<- hy]
  exact zcs zt yC (ja hlen) (za9 hlen) Tryz.func170 Tryz.call170 hc e170
 ·rename_i hc
  exact absurd hc (by have : Tryz.f170.body.isSome = true := by kernel_rfl
                      intro hn;rw[hn]at this;cases this)
def zaT:Hk:=rfnT yc294 rs294 zaw 294 20000 zd6
theorem zk5 (hlen:jr E):zc E Tryz.prog (fun G l h fa k=>bc (Nat.beq G 294) (zaT l h fa k) 1):=by
 have hy:=y294
 split at hy
 ·rename_i c hc
  unfold zaT
  rw[<- hy]
  exact zcs zt yC (ja hlen) (za9 hlen) Tryz.func294 Tryz.call294 hc e294
 ·rename_i hc
  exact absurd hc (by have : Tryz.f294.body.isSome = true := by kernel_rfl
                      intro hn;rw[hn]at this;cases this)
def hkR0 (F:Nat):Option Hk:=(bc (Nat.beq F 24) (some zk6) (bc (Nat.beq F 71) (some zgJ) (bc (Nat.beq F 80) (some zeY) (bc (Nat.beq F 84) (some zdx) (bc (Nat.beq F 170) (some zbk) (bc (Nat.beq F 294) (some zaT) (zg4 F)))))))
theorem zmq (hlen:jr E):∀ F t,hkR0 F=some t->zc E Tryz.prog (fun G l h fa k=>bc (Nat.beq G F) (t l h fa k) 1):=yD (C:=fun F=>(bc (Nat.beq F 71) (some zgJ) (bc (Nat.beq F 80) (some zeY) (bc (Nat.beq F 84) (some zdx) (bc (Nat.beq F 170) (some zbk) (bc (Nat.beq F 294) (some zaT) (zg4 F))))))) (znq hlen) (yD (C:=fun F=>(bc (Nat.beq F 80) (some zeY) (bc (Nat.beq F 84) (some zdx) (bc (Nat.beq F 170) (some zbk) (bc (Nat.beq F 294) (some zaT) (zg4 F)))))) (znp hlen) (yD (C:=fun F=>(bc (Nat.beq F 84) (some zdx) (bc (Nat.beq F 170) (some zbk) (bc (Nat.beq F 294) (some zaT) (zg4 F))))) (zno hlen) (yD (C:=fun F=>(bc (Nat.beq F 170) (some zbk) (bc (Nat.beq F 294) (some zaT) (zg4 F)))) (znn hlen) (yD (C:=fun F=>(bc (Nat.beq F 294) (some zaT) (zg4 F))) (zk7 hlen) (yD (C:=fun F=>(zg4 F)) (zk5 hlen) (zmr hlen))))))
def cxR0:Cx:=⟨fnX,hkR0,20000⟩
def zcE:zw:=zeb cxR0 100
theorem cxR0_ok (hlen:jr E):CxOk E Tryz.prog (zi Tryz.prog) cxR0:=⟨zt,yC,fun F i h=>zcA h,zmq hlen⟩
theorem zaE (hlen:jr E):zc E Tryz.prog zcE:=zaj (cxR0_ok hlen) 100
def zkS:zdn:=subT yc94 rs94 zcE 94 20000 zbN
def zkR:zdn:=subT yc95 rs95 zcE 95 20000 zbN
def zht (F:Nat):Option zdn:=(bc (Nat.beq F 94) (some zkS) (bc (Nat.beq F 95) (some zkR) none))
theorem zeS (hlen:jr E) {s:LS} {yid:Ev.P} {hand:zej} (hh:zcn E Tryz.prog (zH E s yid) yid hand):SubA E Tryz.prog (zH E s yid) yid hand zht:=by
 intro G t h
 unfold zht at h
 cases e94':Nat.beq G 94 with
 | true=>
  rw[e94']at h
  have h:some zkS=some t:=h
  cases h
  have e:G=94:=by simpa using e94'
  subst e
  refine⟨Tryz.call94,fun l hp fa k hk hfa=>?_⟩
  have hy:=y94
  split at hy
  ·rename_i c hc
   unfold zkS at hk
   rw[<- hy]at hk
   exact zgy zt yC (zaE hlen) Tryz.func94 hc e94 s hand yid l hp fa k hh zaI hk hfa
  ·rename_i hc
   exact absurd hc (by have : Tryz.f94.body.isSome = true := by kernel_rfl
                       intro hn;rw[hn]at this;cases this)
 | false=>
 rw[e94']at h
 cases e95':Nat.beq G 95 with
 | true=>
  rw[e95']at h
  have h:some zkR=some t:=h
  cases h
  have e:G=95:=by simpa using e95'
  subst e
  refine⟨Tryz.call95,fun l hp fa k hk hfa=>?_⟩
  have hy:=y95
  split at hy
  ·rename_i c hc
   unfold zkR at hk
   rw[<- hy]at hk
   exact zgy zt yC (zaE hlen) Tryz.func95 hc e95 s hand yid l hp fa k hh zaI hk hfa
  ·rename_i hc
   exact absurd hc (by have : Tryz.f95.body.isSome = true := by kernel_rfl
                       intro hn;rw[hn]at this;cases this)
 | false=>
 rw[e95']at h
 cases h
def zlm:zdo:=itrT yc91 zcE 91 20000 zht
def zgZ:zdo:=itrT yc232 zcE 232 20000 zht
def zgY:zdo:=itrT yc241 zcE 241 20000 zht
def itrX1 (F:Nat):Option zdo:=(bc (Nat.beq F 91) (some zlm) (bc (Nat.beq F 232) (some zgZ) (bc (Nat.beq F 241) (some zgY) none)))
theorem zqt (hlen:jr E):zmK E Tryz.prog itrX1:=by
 intro G it h
 unfold itrX1 at h
 cases e91':Nat.beq G 91 with
 | true=>
  rw[e91']at h
  have h:some zlm=some it:=h
  cases h
  have e:G=91:=by simpa using e91'
  subst e
  refine⟨Tryz.call91,fun s hand yid l hp fa k hh hk hfa=>?_⟩
  have hy:=y91
  split at hy
  ·rename_i c hc
   unfold zlm at hk
   rw[<- hy]at hk
   exact zdG zt yC (zaE hlen) Tryz.func91 hc e91 s hand yid l hp fa k hh (zeS hlen hh) hk hfa
  ·rename_i hc
   exact absurd hc (by have : Tryz.f91.body.isSome = true := by kernel_rfl
                       intro hn;rw[hn]at this;cases this)
 | false=>
 rw[e91']at h
 cases e232':Nat.beq G 232 with
 | true=>
  rw[e232']at h
  have h:some zgZ=some it:=h
  cases h
  have e:G=232:=by simpa using e232'
  subst e
  refine⟨Tryz.call232,fun s hand yid l hp fa k hh hk hfa=>?_⟩
  have hy:=y232
  split at hy
  ·rename_i c hc
   unfold zgZ at hk
   rw[<- hy]at hk
   exact zdG zt yC (zaE hlen) Tryz.func232 hc e232 s hand yid l hp fa k hh (zeS hlen hh) hk hfa
  ·rename_i hc
   exact absurd hc (by have : Tryz.f232.body.isSome = true := by kernel_rfl
                       intro hn;rw[hn]at this;cases this)
 | false=>
 rw[e232']at h
 cases e241':Nat.beq G 241 with
 | true=>
  rw[e241']at h
  have h:some zgY=some it:=h
  cases h
  have e:G=241:=by simpa using e241'
  subst e
  refine⟨Tryz.call241,fun s hand yid l hp fa k hh hk hfa=>?_⟩
  have hy:=y241
  split at hy
  ·rename_i c hc
   unfold zgY at hk
   rw[<- hy]at hk
   exact zdG zt yC (zaE hlen) Tryz.func241 hc e241 s hand yid l hp fa k hh (zeS hlen hh) hk hfa
  ·rename_i hc
   exact absurd hc (by have : Tryz.f241.body.isSome = true := by kernel_rfl
                       intro hn;rw[hn]at this;cases this)
 | false=>
 rw[e241']at h
 cases h
def zk4:Hk:=rfnT yc83 rs83 zcE 83 20000 itrX1
theorem znm (hlen:jr E):zc E Tryz.prog (fun G l h fa k=>bc (Nat.beq G 83) (zk4 l h fa k) 1):=by
 have hy:=y83
 split at hy
 ·rename_i c hc
  unfold zk4
  rw[<- hy]
  exact zcs zt yC (zaE hlen) (zqt hlen) Tryz.func83 Tryz.call83 hc e83
 ·rename_i hc
  exact absurd hc (by have : Tryz.f83.body.isSome = true := by kernel_rfl
                      intro hn;rw[hn]at this;cases this)
def hkR1 (F:Nat):Option Hk:=(bc (Nat.beq F 83) (some zk4) (hkR0 F))
theorem zmp (hlen:jr E):∀ F t,hkR1 F=some t->zc E Tryz.prog (fun G l h fa k=>bc (Nat.beq G F) (t l h fa k) 1):=yD (C:=fun F=>(hkR0 F)) (znm hlen) (zmq hlen)
def cxR1:Cx:=⟨fnX,hkR1,20000⟩
def zlF:zw:=zeb cxR1 100
theorem zmA (hlen:jr E):CxOk E Tryz.prog (zi Tryz.prog) cxR1:=⟨zt,yC,fun F i h=>zcA h,zmp hlen⟩
theorem zgm (hlen:jr E):zc E Tryz.prog zlF:=zaj (zmA hlen) 100
def df13:Hk:=dfnT x13.body x13.res zlF (dcallT cxR1 zlF) 13 20000
def hk1 (F:Nat):Option Hk:=(bc (Nat.beq F 13) (some df13) (hkR1 F))
theorem hk1_ok (hlen:jr E):∀ F t,hk1 F=some t->zc E Tryz.prog (fun G l h fa k=>bc (Nat.beq G F) (t l h fa k) 1):=yD (C:=fun F=>(hkR1 F)) (dfn_ok zt yC (zgm hlen) (zn8 (zmA hlen) (zgm hlen)) Tryz.func13 Tryz.call13 cx13 (drB wx13)) (zmp hlen)
def cx1:Cx:=⟨fnX,hk1,20000⟩
def zab:zw:=zeb cx1 100
theorem zdP (hlen:jr E):CxOk E Tryz.prog (zi Tryz.prog) cx1:=⟨zt,yC,fun F i h=>zcA h,hk1_ok hlen⟩
theorem zba (hlen:jr E):zc E Tryz.prog zab:=zaj (zdP hlen) 100
end Go.Ev.X
end
