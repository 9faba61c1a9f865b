import Derived.Test.YtcohamkngfehlaaGreatDoorSC
import Derived.Test.YtcohamkngfehlaaGreatDoorSS0
import Derived.Test.YtcohamkngfehlaaGreatDoorSS1
set_option linter.unusedSimpArgs false
set_option linter.unusedVariables false
set_option maxRecDepth 100000
noncomputable section
namespace Go.Ev.X
open Go Go.Ev Go.Proofs
def smT15:Tr (List Sm):=(.node (.node (.node (.node (.node (.node (.node (.node (.node (.node (.node .nil (.node (.node (.leaf zkR) .nil) .nil)) .nil) .nil) .nil) (.node (.node (.node (.node .nil (.node (.node (.leaf zkP) .nil) .nil)) .nil) .nil) .nil)) .nil) .nil) .nil) .nil) .nil) .nil)
theorem zpA:TrP (zaa mc15 15 zd) smT15:=⟨⟨⟨⟨⟨⟨⟨⟨⟨⟨⟨trivial,⟨⟨(zc zkQ),trivial⟩,trivial⟩⟩,trivial⟩,trivial⟩,trivial⟩,⟨⟨⟨⟨trivial,⟨⟨(zc zkO),trivial⟩,trivial⟩⟩,trivial⟩,trivial⟩,trivial⟩⟩,trivial⟩,trivial⟩,trivial⟩,trivial⟩,trivial⟩,trivial⟩
def sm15:Hk:=jV mc15 (ssT smT15) 15 zd
def smT19:Tr (List Sm):=(.node (.node (.node (.node (.node (.node (.node (.node (.node (.node (.node .nil (.node (.node (.leaf zkN) .nil) .nil)) .nil) .nil) .nil) (.node (.node (.node (.node .nil (.node (.node (.leaf zkL) .nil) .nil)) .nil) .nil) .nil)) .nil) .nil) .nil) .nil) .nil) .nil)
theorem zpz:TrP (zaa mc19 19 zd) smT19:=⟨⟨⟨⟨⟨⟨⟨⟨⟨⟨⟨trivial,⟨⟨(zc zkM),trivial⟩,trivial⟩⟩,trivial⟩,trivial⟩,trivial⟩,⟨⟨⟨⟨trivial,⟨⟨(zc zkK),trivial⟩,trivial⟩⟩,trivial⟩,trivial⟩,trivial⟩⟩,trivial⟩,trivial⟩,trivial⟩,trivial⟩,trivial⟩,trivial⟩
def sm19:Hk:=jV mc19 (ssT smT19) 19 zd
def smT37:Tr (List Sm):=(.node (.node (.node (.node (.node .nil (.node (.node (.node (.node .nil (.node (.node .nil (.node (.node (.leaf zkJ) .nil) .nil)) .nil)) .nil) .nil) .nil)) (.node (.node (.node (.node (.node (.node (.node (.node (.node (.leaf s37_8) .nil) .nil) .nil) .nil) .nil) .nil) .nil) .nil) .nil)) (.node (.node (.node (.node (.node (.node (.node (.node (.node (.node (.leaf s37_4) .nil) .nil) .nil) .nil) .nil) .nil) .nil) .nil) (.node (.node (.node (.node .nil (.node (.node .nil (.node (.node (.leaf zkB) .nil) .nil)) .nil)) .nil) .nil) .nil)) .nil)) (.node (.node (.node (.node (.node (.node (.node (.node (.node (.node (.node (.leaf s37_2) .nil) .nil) .nil) .nil) .nil) .nil) .nil) .nil) (.node (.node (.node (.node .nil (.node (.node .nil (.node (.node (.leaf zkF) .nil) .nil)) .nil)) .nil) .nil) .nil)) .nil) (.node (.node .nil (.node (.node (.node (.node .nil (.node (.node .nil (.node (.node (.leaf zkx) .nil) .nil)) .nil)) .nil) .nil) .nil)) .nil))) (.node (.node (.node (.node (.node (.node (.node (.node (.node (.node (.node (.node (.leaf s37_1) .nil) .nil) .nil) .nil) .nil) .nil) .nil) .nil) (.node (.node (.node (.node (.node (.node (.node (.node (.leaf s37_17) .nil) .nil) .nil) .nil) (.node (.node .nil (.node (.node (.leaf zkH) .nil) .nil)) .nil)) .nil) .nil) .nil)) (.node (.node (.node (.node (.node .nil (.node (.node (.node (.node (.leaf znb) .nil) .nil) .nil) .nil)) .nil) .nil) .nil) .nil)) (.node (.node .nil (.node (.node (.node (.node .nil (.node (.node .nil (.node (.node (.leaf zkz) .nil) .nil)) .nil)) .nil) .nil) .nil)) .nil)) (.node (.node (.node .nil (.node (.node (.node (.node .nil (.node (.node .nil (.node (.node (.leaf zkD) .nil) .nil)) .nil)) .nil) .nil) .nil)) .nil) (.node (.node .nil (.node (.node (.node (.node .nil (.node (.node .nil (.node (.node (.leaf zkv) .nil) .nil)) .nil)) .nil) .nil) .nil)) .nil))))
theorem zpv:TrP (zaa zbX 37 zd) smT37:=⟨⟨⟨⟨⟨trivial,⟨⟨⟨⟨trivial,⟨⟨trivial,⟨⟨(zc zkI),trivial⟩,trivial⟩⟩,trivial⟩⟩,trivial⟩,trivial⟩,trivial⟩⟩,⟨⟨⟨⟨⟨⟨⟨⟨⟨(zc zp1),trivial⟩,trivial⟩,trivial⟩,trivial⟩,trivial⟩,trivial⟩,trivial⟩,trivial⟩,trivial⟩⟩,⟨⟨⟨⟨⟨⟨⟨⟨⟨⟨(zc zp2),trivial⟩,trivial⟩,trivial⟩,trivial⟩,trivial⟩,trivial⟩,trivial⟩,trivial⟩,⟨⟨⟨⟨trivial,⟨⟨trivial,⟨⟨(zc zkA),trivial⟩,trivial⟩⟩,trivial⟩⟩,trivial⟩,trivial⟩,trivial⟩⟩,trivial⟩⟩,⟨⟨⟨⟨⟨⟨⟨⟨⟨⟨⟨(zc zp3),trivial⟩,trivial⟩,trivial⟩,trivial⟩,trivial⟩,trivial⟩,trivial⟩,trivial⟩,⟨⟨⟨⟨trivial,⟨⟨trivial,⟨⟨(zc zkE),trivial⟩,trivial⟩⟩,trivial⟩⟩,trivial⟩,trivial⟩,trivial⟩⟩,trivial⟩,⟨⟨trivial,⟨⟨⟨⟨trivial,⟨⟨trivial,⟨⟨(zc zkw),trivial⟩,trivial⟩⟩,trivial⟩⟩,trivial⟩,trivial⟩,trivial⟩⟩,trivial⟩⟩⟩,⟨⟨⟨⟨⟨⟨⟨⟨⟨⟨⟨⟨(zc zp4),trivial⟩,trivial⟩,trivial⟩,trivial⟩,trivial⟩,trivial⟩,trivial⟩,trivial⟩,⟨⟨⟨⟨⟨⟨⟨⟨(zc zoq),trivial⟩,trivial⟩,trivial⟩,trivial⟩,⟨⟨trivial,⟨⟨(zc zkG),trivial⟩,trivial⟩⟩,trivial⟩⟩,trivial⟩,trivial⟩,trivial⟩⟩,⟨⟨⟨⟨⟨trivial,⟨⟨⟨⟨(zc zmf),trivial⟩,trivial⟩,trivial⟩,trivial⟩⟩,trivial⟩,trivial⟩,trivial⟩,trivial⟩⟩,⟨⟨trivial,⟨⟨⟨⟨trivial,⟨⟨trivial,⟨⟨(zc zky),trivial⟩,trivial⟩⟩,trivial⟩⟩,trivial⟩,trivial⟩,trivial⟩⟩,trivial⟩⟩,⟨⟨⟨trivial,⟨⟨⟨⟨trivial,⟨⟨trivial,⟨⟨(zc zkC),trivial⟩,trivial⟩⟩,trivial⟩⟩,trivial⟩,trivial⟩,trivial⟩⟩,trivial⟩,⟨⟨trivial,⟨⟨⟨⟨trivial,⟨⟨trivial,⟨⟨(zc zku),trivial⟩,trivial⟩⟩,trivial⟩⟩,trivial⟩,trivial⟩,trivial⟩⟩,trivial⟩⟩⟩⟩
def sm37:Hk:=jV zbX (ssT smT37) 37 zd
def smT48:Tr (List Sm):=(.node (.node (.node (.node (.node (.node (.node (.node (.node (.node (.node .nil (.node (.node (.leaf zkt) .nil) .nil)) .nil) .nil) .nil) (.node (.node (.node (.node .nil (.node (.node (.leaf zkr) .nil) .nil)) .nil) (.node (.node .nil (.node (.node (.leaf zjL) .nil) .nil)) .nil)) .nil)) (.node (.node (.node (.node (.node (.node (.node (.leaf s48_32) .nil) .nil) .nil) .nil) (.node (.node .nil (.node (.node (.leaf zj1) .nil) .nil)) .nil)) .nil) (.node (.node .nil (.node (.node .nil (.node (.node (.leaf zjv) .nil) .nil)) .nil)) .nil))) (.node (.node (.node (.node .nil (.node (.node .nil (.node (.node (.leaf zj9) .nil) .nil)) .nil)) .nil) (.node (.node .nil (.node (.node .nil (.node (.node (.leaf zjD) .nil) .nil)) .nil)) .nil)) (.node (.node (.node .nil (.node (.node .nil (.node (.node (.leaf zjT) .nil) .nil)) .nil)) .nil) (.node (.node .nil (.node (.node .nil (.node (.node (.leaf zjn) .nil) .nil)) .nil)) .nil)))) (.node (.node (.node (.node (.node .nil (.node (.node .nil (.node (.node (.leaf zkd) .nil) .nil)) .nil)) (.node (.node (.node .nil (.node (.node (.leaf zkn) .nil) .nil)) .nil) .nil)) (.node (.node .nil (.node (.node .nil (.node (.node (.leaf zjH) .nil) .nil)) .nil)) (.node (.node (.node .nil (.node (.node (.leaf zkh) .nil) .nil)) .nil) .nil))) (.node (.node (.node .nil (.node (.node .nil (.node (.node (.leaf zjX) .nil) .nil)) .nil)) .nil) (.node (.node .nil (.node (.node .nil (.node (.node (.leaf zjr) .nil) .nil)) .nil)) .nil))) (.node (.node (.node (.node .nil (.node (.node .nil (.node (.node (.leaf zj5) .nil) .nil)) .nil)) .nil) (.node (.node .nil (.node (.node .nil (.node (.node (.leaf zjz) .nil) .nil)) .nil)) .nil)) (.node (.node (.node .nil (.node (.node .nil (.node (.node (.leaf zjP) .nil) .nil)) .nil)) .nil) (.node (.node .nil (.node (.node .nil (.node (.node (.leaf zjj) .nil) .nil)) .nil)) .nil))))) (.node (.node (.node (.node (.node (.node .nil (.node (.node .nil (.node (.node (.leaf zkf) .nil) .nil)) .nil)) (.node (.node (.node .nil (.node (.node (.leaf zkp) .nil) .nil)) .nil) .nil)) (.node (.node .nil (.node (.node .nil (.node (.node (.leaf zjJ) .nil) .nil)) .nil)) (.node (.node (.node .nil (.node (.node (.leaf zkj) .nil) .nil)) .nil) .nil))) (.node (.node (.node (.node (.node (.node (.node (.leaf s48_36) .nil) .nil) .nil) .nil) (.node (.node .nil (.node (.node (.leaf zjZ) .nil) .nil)) .nil)) .nil) (.node (.node .nil (.node (.node .nil (.node (.node (.leaf zjt) .nil) .nil)) .nil)) .nil))) (.node (.node (.node (.node .nil (.node (.node .nil (.node (.node (.leaf zj7) .nil) .nil)) .nil)) .nil) (.node (.node .nil (.node (.node .nil (.node (.node (.leaf zjB) .nil) .nil)) .nil)) .nil)) (.node (.node (.node .nil (.node (.node .nil (.node (.node (.leaf zjR) .nil) .nil)) .nil)) .nil) (.node (.node .nil (.node (.node .nil (.node (.node (.leaf zjl) .nil) .nil)) .nil)) .nil)))) (.node (.node (.node (.node (.node .nil (.node (.node .nil (.node (.node (.leaf zkb) .nil) .nil)) .nil)) (.node (.node (.node .nil (.node (.node (.leaf zkl) .nil) .nil)) .nil) .nil)) (.node (.node .nil (.node (.node .nil (.node (.node (.leaf zjF) .nil) .nil)) .nil)) .nil)) (.node (.node (.node .nil (.node (.node .nil (.node (.node (.leaf zjV) .nil) .nil)) .nil)) .nil) (.node (.node .nil (.node (.node .nil (.node (.node (.leaf zjp) .nil) .nil)) .nil)) .nil))) (.node (.node (.node (.node .nil (.node (.node .nil (.node (.node (.leaf zj3) .nil) .nil)) .nil)) .nil) (.node (.node .nil (.node (.node .nil (.node (.node (.leaf zjx) .nil) .nil)) .nil)) .nil)) (.node (.node (.node (.node (.node (.node (.node (.leaf s48_60) .nil) .nil) .nil) .nil) (.node (.node .nil (.node (.node (.leaf zjN) .nil) .nil)) .nil)) .nil) (.node (.node .nil (.node (.node .nil (.node (.node (.leaf zjh) .nil) .nil)) .nil)) .nil)))))) .nil) .nil)
theorem zpu:TrP (zaa yY 48 zd) smT48:=⟨⟨⟨⟨⟨⟨⟨⟨⟨⟨⟨trivial,⟨⟨(zc zks),trivial⟩,trivial⟩⟩,trivial⟩,trivial⟩,trivial⟩,⟨⟨⟨⟨trivial,⟨⟨(zc zkq),trivial⟩,trivial⟩⟩,trivial⟩,⟨⟨trivial,⟨⟨(zc zjK),trivial⟩,trivial⟩⟩,trivial⟩⟩,trivial⟩⟩,⟨⟨⟨⟨⟨⟨⟨(zc zop),trivial⟩,trivial⟩,trivial⟩,trivial⟩,⟨⟨trivial,⟨⟨(zc zj0),trivial⟩,trivial⟩⟩,trivial⟩⟩,trivial⟩,⟨⟨trivial,⟨⟨trivial,⟨⟨(zc zju),trivial⟩,trivial⟩⟩,trivial⟩⟩,trivial⟩⟩⟩,⟨⟨⟨⟨trivial,⟨⟨trivial,⟨⟨(zc zj8),trivial⟩,trivial⟩⟩,trivial⟩⟩,trivial⟩,⟨⟨trivial,⟨⟨trivial,⟨⟨(zc zjC),trivial⟩,trivial⟩⟩,trivial⟩⟩,trivial⟩⟩,⟨⟨⟨trivial,⟨⟨trivial,⟨⟨(zc zjS),trivial⟩,trivial⟩⟩,trivial⟩⟩,trivial⟩,⟨⟨trivial,⟨⟨trivial,⟨⟨(zc zjm),trivial⟩,trivial⟩⟩,trivial⟩⟩,trivial⟩⟩⟩⟩,⟨⟨⟨⟨⟨trivial,⟨⟨trivial,⟨⟨(zc zkc),trivial⟩,trivial⟩⟩,trivial⟩⟩,⟨⟨⟨trivial,⟨⟨(zc zkm),trivial⟩,trivial⟩⟩,trivial⟩,trivial⟩⟩,⟨⟨trivial,⟨⟨trivial,⟨⟨(zc zjG),trivial⟩,trivial⟩⟩,trivial⟩⟩,⟨⟨⟨trivial,⟨⟨(zc zkg),trivial⟩,trivial⟩⟩,trivial⟩,trivial⟩⟩⟩,⟨⟨⟨trivial,⟨⟨trivial,⟨⟨(zc zjW),trivial⟩,trivial⟩⟩,trivial⟩⟩,trivial⟩,⟨⟨trivial,⟨⟨trivial,⟨⟨(zc zjq),trivial⟩,trivial⟩⟩,trivial⟩⟩,trivial⟩⟩⟩,⟨⟨⟨⟨trivial,⟨⟨trivial,⟨⟨(zc zj4),trivial⟩,trivial⟩⟩,trivial⟩⟩,trivial⟩,⟨⟨trivial,⟨⟨trivial,⟨⟨(zc zjy),trivial⟩,trivial⟩⟩,trivial⟩⟩,trivial⟩⟩,⟨⟨⟨trivial,⟨⟨trivial,⟨⟨(zc zjO),trivial⟩,trivial⟩⟩,trivial⟩⟩,trivial⟩,⟨⟨trivial,⟨⟨trivial,⟨⟨(zc zji),trivial⟩,trivial⟩⟩,trivial⟩⟩,trivial⟩⟩⟩⟩⟩,⟨⟨⟨⟨⟨⟨trivial,⟨⟨trivial,⟨⟨(zc zke),trivial⟩,trivial⟩⟩,trivial⟩⟩,⟨⟨⟨trivial,⟨⟨(zc zko),trivial⟩,trivial⟩⟩,trivial⟩,trivial⟩⟩,⟨⟨trivial,⟨⟨trivial,⟨⟨(zc zjI),trivial⟩,trivial⟩⟩,trivial⟩⟩,⟨⟨⟨trivial,⟨⟨(zc zki),trivial⟩,trivial⟩⟩,trivial⟩,trivial⟩⟩⟩,⟨⟨⟨⟨⟨⟨⟨(zc zoo),trivial⟩,trivial⟩,trivial⟩,trivial⟩,⟨⟨trivial,⟨⟨(zc zjY),trivial⟩,trivial⟩⟩,trivial⟩⟩,trivial⟩,⟨⟨trivial,⟨⟨trivial,⟨⟨(zc zjs),trivial⟩,trivial⟩⟩,trivial⟩⟩,trivial⟩⟩⟩,⟨⟨⟨⟨trivial,⟨⟨trivial,⟨⟨(zc zj6),trivial⟩,trivial⟩⟩,trivial⟩⟩,trivial⟩,⟨⟨trivial,⟨⟨trivial,⟨⟨(zc zjA),trivial⟩,trivial⟩⟩,trivial⟩⟩,trivial⟩⟩,⟨⟨⟨trivial,⟨⟨trivial,⟨⟨(zc zjQ),trivial⟩,trivial⟩⟩,trivial⟩⟩,trivial⟩,⟨⟨trivial,⟨⟨trivial,⟨⟨(zc zjk),trivial⟩,trivial⟩⟩,trivial⟩⟩,trivial⟩⟩⟩⟩,⟨⟨⟨⟨⟨trivial,⟨⟨trivial,⟨⟨(zc zka),trivial⟩,trivial⟩⟩,trivial⟩⟩,⟨⟨⟨trivial,⟨⟨(zc zkk),trivial⟩,trivial⟩⟩,trivial⟩,trivial⟩⟩,⟨⟨trivial,⟨⟨trivial,⟨⟨(zc zjE),trivial⟩,trivial⟩⟩,trivial⟩⟩,trivial⟩⟩,⟨⟨⟨trivial,⟨⟨trivial,⟨⟨(zc zjU),trivial⟩,trivial⟩⟩,trivial⟩⟩,trivial⟩,⟨⟨trivial,⟨⟨trivial,⟨⟨(zc zjo),trivial⟩,trivial⟩⟩,trivial⟩⟩,trivial⟩⟩⟩,⟨⟨⟨⟨trivial,⟨⟨trivial,⟨⟨(zc zj2),trivial⟩,trivial⟩⟩,trivial⟩⟩,trivial⟩,⟨⟨trivial,⟨⟨trivial,⟨⟨(zc zjw),trivial⟩,trivial⟩⟩,trivial⟩⟩,trivial⟩⟩,⟨⟨⟨⟨⟨⟨⟨(zc zon),trivial⟩,trivial⟩,trivial⟩,trivial⟩,⟨⟨trivial,⟨⟨(zc zjM),trivial⟩,trivial⟩⟩,trivial⟩⟩,trivial⟩,⟨⟨trivial,⟨⟨trivial,⟨⟨(zc zjg),trivial⟩,trivial⟩⟩,trivial⟩⟩,trivial⟩⟩⟩⟩⟩⟩,trivial⟩,trivial⟩
def sm48:Hk:=jV yY (ssT smT48) 48 zd
def smT52:Tr (List Sm):=(.node (.node (.node (.node (.node (.node (.node (.node (.node (.node (.node .nil (.node (.node (.leaf zjf) .nil) .nil)) .nil) .nil) .nil) (.node (.node (.node (.node .nil (.node (.node (.leaf zjd) .nil) .nil)) .nil) .nil) .nil)) .nil) .nil) .nil) .nil) .nil) .nil)
theorem zpt:TrP (zaa mc52 52 zd) smT52:=⟨⟨⟨⟨⟨⟨⟨⟨⟨⟨⟨trivial,⟨⟨(zc zje),trivial⟩,trivial⟩⟩,trivial⟩,trivial⟩,trivial⟩,⟨⟨⟨⟨trivial,⟨⟨(zc zjc),trivial⟩,trivial⟩⟩,trivial⟩,trivial⟩,trivial⟩⟩,trivial⟩,trivial⟩,trivial⟩,trivial⟩,trivial⟩,trivial⟩
def sm52:Hk:=jV mc52 (ssT smT52) 52 zd
def smT72:Tr (List Sm):=(.node (.node (.node (.node (.node (.node (.node (.node (.node (.node (.node .nil (.node (.node (.leaf zjb) .nil) .nil)) .nil) .nil) (.node (.node (.node .nil (.node (.node (.leaf ziZ) .nil) .nil)) .nil) .nil)) (.node (.node (.node (.node (.node (.node (.leaf s72_64) .nil) .nil) (.node (.node (.leaf zi5) .nil) .nil)) .nil) (.node (.node .nil (.node (.node (.leaf zhs) .nil) .nil)) .nil)) (.node (.node (.node .nil (.node (.node (.leaf zit) .nil) .nil)) .nil) .nil))) (.node (.node (.node (.node (.node (.node (.node (.leaf s72_32) .nil) .nil) .nil) .nil) (.node (.node .nil (.node (.node (.leaf zhI) .nil) .nil)) .nil)) (.node (.node (.node .nil (.node (.node (.leaf ziJ) .nil) .nil)) .nil) .nil)) (.node (.node (.node (.node (.node (.node (.leaf s72_96) .nil) .nil) .nil) .nil) (.node (.node .nil (.node (.node (.leaf zhc) .nil) .nil)) .nil)) (.node (.node (.node .nil (.node (.node (.leaf zic) .nil) .nil)) .nil) .nil)))) (.node (.node (.node (.node .nil (.node (.node .nil (.node (.node (.leaf zhQ) .nil) .nil)) .nil)) (.node (.node (.node .nil (.node (.node (.leaf ziR) .nil) .nil)) .nil) .nil)) (.node (.node (.node (.node (.node (.node (.leaf s72_80) .nil) .nil) .nil) .nil) (.node (.node .nil (.node (.node (.leaf zhk) .nil) .nil)) .nil)) (.node (.node (.node .nil (.node (.node (.leaf zik) .nil) .nil)) .nil) .nil))) (.node (.node (.node (.node (.node (.node (.node (.leaf s72_48) .nil) .nil) .nil) .nil) (.node (.node .nil (.node (.node (.leaf zhA) .nil) .nil)) .nil)) (.node (.node (.node .nil (.node (.node (.leaf ziB) .nil) .nil)) .nil) .nil)) (.node (.node (.node (.node (.node (.node (.leaf zm7) .nil) .nil) .nil) .nil) (.node (.node .nil (.node (.node (.leaf zg4) .nil) .nil)) .nil)) (.node (.node (.node .nil (.node (.node (.leaf zh4) .nil) .nil)) .nil) .nil))))) (.node (.node (.node (.node (.node (.node (.node .nil (.node (.node (.leaf zi7) .nil) .nil)) .nil) (.node (.node .nil (.node (.node (.leaf zhU) .nil) .nil)) .nil)) (.node (.node (.node .nil (.node (.node (.leaf ziV) .nil) .nil)) .nil) .nil)) (.node (.node (.node (.node (.node (.node (.leaf s72_72) .nil) .nil) (.node (.node (.leaf zi1) .nil) .nil)) .nil) (.node (.node .nil (.node (.node (.leaf zho) .nil) .nil)) .nil)) (.node (.node (.node .nil (.node (.node (.leaf zio) .nil) .nil)) .nil) .nil))) (.node (.node (.node (.node (.node (.node (.node (.leaf s72_40) .nil) .nil) .nil) .nil) (.node (.node .nil (.node (.node (.leaf zhE) .nil) .nil)) .nil)) (.node (.node (.node .nil (.node (.node (.leaf ziF) .nil) .nil)) .nil) .nil)) (.node (.node (.node (.node (.node (.node (.leaf zm9) .nil) .nil) .nil) .nil) (.node (.node .nil (.node (.node (.leaf zg8) .nil) .nil)) .nil)) (.node (.node (.node .nil (.node (.node (.leaf zh8) .nil) .nil)) .nil) .nil)))) (.node (.node (.node (.node .nil (.node (.node .nil (.node (.node (.leaf zhM) .nil) .nil)) .nil)) (.node (.node (.node .nil (.node (.node (.leaf ziN) .nil) .nil)) .nil) .nil)) (.node (.node (.node (.node (.node (.node (.leaf s72_88) .nil) .nil) .nil) .nil) (.node (.node .nil (.node (.node (.leaf zhg) .nil) .nil)) .nil)) (.node (.node (.node .nil (.node (.node (.leaf zig) .nil) .nil)) .nil) .nil))) (.node (.node (.node (.node (.node (.node (.node (.leaf s72_56) .nil) .nil) .nil) .nil) (.node (.node .nil (.node (.node (.leaf zhw) .nil) .nil)) .nil)) (.node (.node (.node .nil (.node (.node (.leaf zix) .nil) .nil)) .nil) .nil)) (.node (.node (.node (.node (.node (.node (.leaf zm5) .nil) .nil) .nil) .nil) (.node (.node .nil (.node (.node (.leaf zg0) .nil) .nil)) .nil)) (.node (.node (.node .nil (.node (.node (.leaf zh0) .nil) .nil)) .nil) .nil)))))) (.node (.node (.node (.node (.node (.node (.node (.node .nil (.node (.node (.leaf zi9) .nil) .nil)) .nil) (.node (.node .nil (.node (.node (.leaf zhW) .nil) .nil)) .nil)) (.node (.node (.node .nil (.node (.node (.leaf ziX) .nil) .nil)) .nil) .nil)) (.node (.node (.node (.node (.node (.node (.leaf s72_68) .nil) .nil) (.node (.node (.leaf zi3) .nil) .nil)) .nil) (.node (.node .nil (.node (.node (.leaf zhq) .nil) .nil)) .nil)) (.node (.node (.node .nil (.node (.node (.leaf zir) .nil) .nil)) .nil) .nil))) (.node (.node (.node (.node (.node (.node (.node (.leaf s72_36) .nil) .nil) .nil) .nil) (.node (.node .nil (.node (.node (.leaf zhG) .nil) .nil)) .nil)) (.node (.node (.node .nil (.node (.node (.leaf ziH) .nil) .nil)) .nil) .nil)) (.node (.node (.node (.node (.node (.node (.leaf zna) .nil) .nil) .nil) .nil) (.node (.node .nil (.node (.node (.leaf zha) .nil) .nil)) .nil)) (.node (.node (.node .nil (.node (.node (.leaf zia) .nil) .nil)) .nil) .nil)))) (.node (.node (.node (.node .nil (.node (.node .nil (.node (.node (.leaf zhO) .nil) .nil)) .nil)) (.node (.node (.node .nil (.node (.node (.leaf ziP) .nil) .nil)) .nil) .nil)) (.node (.node (.node (.node (.node (.node (.leaf s72_84) .nil) .nil) .nil) .nil) (.node (.node .nil (.node (.node (.leaf zhi) .nil) .nil)) .nil)) (.node (.node (.node .nil (.node (.node (.leaf zii) .nil) .nil)) .nil) .nil))) (.node (.node (.node (.node (.node (.node (.node (.leaf s72_52) .nil) .nil) .nil) .nil) (.node (.node .nil (.node (.node (.leaf zhy) .nil) .nil)) .nil)) (.node (.node (.node .nil (.node (.node (.leaf ziz) .nil) .nil)) .nil) .nil)) (.node (.node (.node (.node (.node (.node (.leaf zm6) .nil) .nil) .nil) .nil) (.node (.node .nil (.node (.node (.leaf zg2) .nil) .nil)) .nil)) (.node (.node (.node .nil (.node (.node (.leaf zh2) .nil) .nil)) .nil) .nil))))) (.node (.node (.node (.node (.node .nil (.node (.node .nil (.node (.node (.leaf zhS) .nil) .nil)) .nil)) (.node (.node (.node .nil (.node (.node (.leaf ziT) .nil) .nil)) .nil) .nil)) (.node (.node (.node (.node (.node (.node (.leaf s72_76) .nil) .nil) .nil) .nil) (.node (.node .nil (.node (.node (.leaf zhm) .nil) .nil)) .nil)) (.node (.node (.node .nil (.node (.node (.leaf zim) .nil) .nil)) .nil) .nil))) (.node (.node (.node (.node (.node (.node (.node (.leaf s72_44) .nil) .nil) .nil) .nil) (.node (.node .nil (.node (.node (.leaf zhC) .nil) .nil)) .nil)) (.node (.node (.node .nil (.node (.node (.leaf ziD) .nil) .nil)) .nil) .nil)) (.node (.node (.node (.node (.node (.node (.leaf zm8) .nil) .nil) .nil) .nil) (.node (.node .nil (.node (.node (.leaf zg6) .nil) .nil)) .nil)) (.node (.node (.node .nil (.node (.node (.leaf zh6) .nil) .nil)) .nil) .nil)))) (.node (.node (.node (.node .nil (.node (.node .nil (.node (.node (.leaf zhK) .nil) .nil)) .nil)) (.node (.node (.node .nil (.node (.node (.leaf ziL) .nil) .nil)) .nil) .nil)) (.node (.node (.node (.node (.node (.node (.leaf s72_92) .nil) .nil) .nil) .nil) (.node (.node .nil (.node (.node (.leaf zhe) .nil) .nil)) .nil)) (.node (.node (.node .nil (.node (.node (.leaf zie) .nil) .nil)) .nil) .nil))) (.node (.node (.node (.node (.node (.node (.node (.leaf s72_60) .nil) .nil) .nil) .nil) (.node (.node .nil (.node (.node (.leaf zhu) .nil) .nil)) .nil)) (.node (.node (.node .nil (.node (.node (.leaf ziv) .nil) .nil)) .nil) .nil)) (.node (.node (.node (.node (.node (.node (.leaf zm4) .nil) .nil) .nil) .nil) (.node (.node .nil (.node (.node (.leaf zgY) .nil) .nil)) .nil)) (.node (.node (.node .nil (.node (.node (.leaf zhY) .nil) .nil)) .nil) .nil))))))) .nil) .nil)
theorem zps:TrP (zaa zr 72 zd) smT72:=⟨⟨⟨⟨⟨⟨⟨⟨⟨⟨⟨trivial,⟨⟨(zc zja),trivial⟩,trivial⟩⟩,trivial⟩,trivial⟩,⟨⟨⟨trivial,⟨⟨(zc ziY),trivial⟩,trivial⟩⟩,trivial⟩,trivial⟩⟩,⟨⟨⟨⟨⟨⟨(zc zoe),trivial⟩,trivial⟩,⟨⟨(zc zi4),trivial⟩,trivial⟩⟩,trivial⟩,⟨⟨trivial,⟨⟨(zc zhr),trivial⟩,trivial⟩⟩,trivial⟩⟩,⟨⟨⟨trivial,⟨⟨(zc zis),trivial⟩,trivial⟩⟩,trivial⟩,trivial⟩⟩⟩,⟨⟨⟨⟨⟨⟨⟨(zc zom),trivial⟩,trivial⟩,trivial⟩,trivial⟩,⟨⟨trivial,⟨⟨(zc zhH),trivial⟩,trivial⟩⟩,trivial⟩⟩,⟨⟨⟨trivial,⟨⟨(zc ziI),trivial⟩,trivial⟩⟩,trivial⟩,trivial⟩⟩,⟨⟨⟨⟨⟨⟨(zc zn6),trivial⟩,trivial⟩,trivial⟩,trivial⟩,⟨⟨trivial,⟨⟨(zc zhb),trivial⟩,trivial⟩⟩,trivial⟩⟩,⟨⟨⟨trivial,⟨⟨(zc zib),trivial⟩,trivial⟩⟩,trivial⟩,trivial⟩⟩⟩⟩,⟨⟨⟨⟨trivial,⟨⟨trivial,⟨⟨(zc zhP),trivial⟩,trivial⟩⟩,trivial⟩⟩,⟨⟨⟨trivial,⟨⟨(zc ziQ),trivial⟩,trivial⟩⟩,trivial⟩,trivial⟩⟩,⟨⟨⟨⟨⟨⟨(zc zoa),trivial⟩,trivial⟩,trivial⟩,trivial⟩,⟨⟨trivial,⟨⟨(zc zhj),trivial⟩,trivial⟩⟩,trivial⟩⟩,⟨⟨⟨trivial,⟨⟨(zc zij),trivial⟩,trivial⟩⟩,trivial⟩,trivial⟩⟩⟩,⟨⟨⟨⟨⟨⟨⟨(zc zoi),trivial⟩,trivial⟩,trivial⟩,trivial⟩,⟨⟨trivial,⟨⟨(zc zhz),trivial⟩,trivial⟩⟩,trivial⟩⟩,⟨⟨⟨trivial,⟨⟨(zc ziA),trivial⟩,trivial⟩⟩,trivial⟩,trivial⟩⟩,⟨⟨⟨⟨⟨⟨(zc zmb),trivial⟩,trivial⟩,trivial⟩,trivial⟩,⟨⟨trivial,⟨⟨(zc zg3),trivial⟩,trivial⟩⟩,trivial⟩⟩,⟨⟨⟨trivial,⟨⟨(zc zh3),trivial⟩,trivial⟩⟩,trivial⟩,trivial⟩⟩⟩⟩⟩,⟨⟨⟨⟨⟨⟨⟨trivial,⟨⟨(zc zi6),trivial⟩,trivial⟩⟩,trivial⟩,⟨⟨trivial,⟨⟨(zc zhT),trivial⟩,trivial⟩⟩,trivial⟩⟩,⟨⟨⟨trivial,⟨⟨(zc ziU),trivial⟩,trivial⟩⟩,trivial⟩,trivial⟩⟩,⟨⟨⟨⟨⟨⟨(zc zoc),trivial⟩,trivial⟩,⟨⟨(zc zi0),trivial⟩,trivial⟩⟩,trivial⟩,⟨⟨trivial,⟨⟨(zc zhn),trivial⟩,trivial⟩⟩,trivial⟩⟩,⟨⟨⟨trivial,⟨⟨(zc zin),trivial⟩,trivial⟩⟩,trivial⟩,trivial⟩⟩⟩,⟨⟨⟨⟨⟨⟨⟨(zc zok),trivial⟩,trivial⟩,trivial⟩,trivial⟩,⟨⟨trivial,⟨⟨(zc zhD),trivial⟩,trivial⟩⟩,trivial⟩⟩,⟨⟨⟨trivial,⟨⟨(zc ziE),trivial⟩,trivial⟩⟩,trivial⟩,trivial⟩⟩,⟨⟨⟨⟨⟨⟨(zc zmd),trivial⟩,trivial⟩,trivial⟩,trivial⟩,⟨⟨trivial,⟨⟨(zc zg7),trivial⟩,trivial⟩⟩,trivial⟩⟩,⟨⟨⟨trivial,⟨⟨(zc zh7),trivial⟩,trivial⟩⟩,trivial⟩,trivial⟩⟩⟩⟩,⟨⟨⟨⟨trivial,⟨⟨trivial,⟨⟨(zc zhL),trivial⟩,trivial⟩⟩,trivial⟩⟩,⟨⟨⟨trivial,⟨⟨(zc ziM),trivial⟩,trivial⟩⟩,trivial⟩,trivial⟩⟩,⟨⟨⟨⟨⟨⟨(zc zn8),trivial⟩,trivial⟩,trivial⟩,trivial⟩,⟨⟨trivial,⟨⟨(zc zhf),trivial⟩,trivial⟩⟩,trivial⟩⟩,⟨⟨⟨trivial,⟨⟨(zc zif),trivial⟩,trivial⟩⟩,trivial⟩,trivial⟩⟩⟩,⟨⟨⟨⟨⟨⟨⟨(zc zog),trivial⟩,trivial⟩,trivial⟩,trivial⟩,⟨⟨trivial,⟨⟨(zc zhv),trivial⟩,trivial⟩⟩,trivial⟩⟩,⟨⟨⟨trivial,⟨⟨(zc ziw),trivial⟩,trivial⟩⟩,trivial⟩,trivial⟩⟩,⟨⟨⟨⟨⟨⟨(zc zl9),trivial⟩,trivial⟩,trivial⟩,trivial⟩,⟨⟨trivial,⟨⟨(zc zgZ),trivial⟩,trivial⟩⟩,trivial⟩⟩,⟨⟨⟨trivial,⟨⟨(zc zhZ),trivial⟩,trivial⟩⟩,trivial⟩,trivial⟩⟩⟩⟩⟩⟩,⟨⟨⟨⟨⟨⟨⟨⟨trivial,⟨⟨(zc zi8),trivial⟩,trivial⟩⟩,trivial⟩,⟨⟨trivial,⟨⟨(zc zhV),trivial⟩,trivial⟩⟩,trivial⟩⟩,⟨⟨⟨trivial,⟨⟨(zc ziW),trivial⟩,trivial⟩⟩,trivial⟩,trivial⟩⟩,⟨⟨⟨⟨⟨⟨(zc zod),trivial⟩,trivial⟩,⟨⟨(zc zi2),trivial⟩,trivial⟩⟩,trivial⟩,⟨⟨trivial,⟨⟨(zc zhp),trivial⟩,trivial⟩⟩,trivial⟩⟩,⟨⟨⟨trivial,⟨⟨(zc ziq),trivial⟩,trivial⟩⟩,trivial⟩,trivial⟩⟩⟩,⟨⟨⟨⟨⟨⟨⟨(zc zol),trivial⟩,trivial⟩,trivial⟩,trivial⟩,⟨⟨trivial,⟨⟨(zc zhF),trivial⟩,trivial⟩⟩,trivial⟩⟩,⟨⟨⟨trivial,⟨⟨(zc ziG),trivial⟩,trivial⟩⟩,trivial⟩,trivial⟩⟩,⟨⟨⟨⟨⟨⟨(zc zme),trivial⟩,trivial⟩,trivial⟩,trivial⟩,⟨⟨trivial,⟨⟨(zc zg9),trivial⟩,trivial⟩⟩,trivial⟩⟩,⟨⟨⟨trivial,⟨⟨(zc zh9),trivial⟩,trivial⟩⟩,trivial⟩,trivial⟩⟩⟩⟩,⟨⟨⟨⟨trivial,⟨⟨trivial,⟨⟨(zc zhN),trivial⟩,trivial⟩⟩,trivial⟩⟩,⟨⟨⟨trivial,⟨⟨(zc ziO),trivial⟩,trivial⟩⟩,trivial⟩,trivial⟩⟩,⟨⟨⟨⟨⟨⟨(zc zn9),trivial⟩,trivial⟩,trivial⟩,trivial⟩,⟨⟨trivial,⟨⟨(zc zhh),trivial⟩,trivial⟩⟩,trivial⟩⟩,⟨⟨⟨trivial,⟨⟨(zc zih),trivial⟩,trivial⟩⟩,trivial⟩,trivial⟩⟩⟩,⟨⟨⟨⟨⟨⟨⟨(zc zoh),trivial⟩,trivial⟩,trivial⟩,trivial⟩,⟨⟨trivial,⟨⟨(zc zhx),trivial⟩,trivial⟩⟩,trivial⟩⟩,⟨⟨⟨trivial,⟨⟨(zc ziy),trivial⟩,trivial⟩⟩,trivial⟩,trivial⟩⟩,⟨⟨⟨⟨⟨⟨(zc zma),trivial⟩,trivial⟩,trivial⟩,trivial⟩,⟨⟨trivial,⟨⟨(zc zg1),trivial⟩,trivial⟩⟩,trivial⟩⟩,⟨⟨⟨trivial,⟨⟨(zc zh1),trivial⟩,trivial⟩⟩,trivial⟩,trivial⟩⟩⟩⟩⟩,⟨⟨⟨⟨⟨trivial,⟨⟨trivial,⟨⟨(zc zhR),trivial⟩,trivial⟩⟩,trivial⟩⟩,⟨⟨⟨trivial,⟨⟨(zc ziS),trivial⟩,trivial⟩⟩,trivial⟩,trivial⟩⟩,⟨⟨⟨⟨⟨⟨(zc zob),trivial⟩,trivial⟩,trivial⟩,trivial⟩,⟨⟨trivial,⟨⟨(zc zhl),trivial⟩,trivial⟩⟩,trivial⟩⟩,⟨⟨⟨trivial,⟨⟨(zc zil),trivial⟩,trivial⟩⟩,trivial⟩,trivial⟩⟩⟩,⟨⟨⟨⟨⟨⟨⟨(zc zoj),trivial⟩,trivial⟩,trivial⟩,trivial⟩,⟨⟨trivial,⟨⟨(zc zhB),trivial⟩,trivial⟩⟩,trivial⟩⟩,⟨⟨⟨trivial,⟨⟨(zc ziC),trivial⟩,trivial⟩⟩,trivial⟩,trivial⟩⟩,⟨⟨⟨⟨⟨⟨(zc zmc),trivial⟩,trivial⟩,trivial⟩,trivial⟩,⟨⟨trivial,⟨⟨(zc zg5),trivial⟩,trivial⟩⟩,trivial⟩⟩,⟨⟨⟨trivial,⟨⟨(zc zh5),trivial⟩,trivial⟩⟩,trivial⟩,trivial⟩⟩⟩⟩,⟨⟨⟨⟨trivial,⟨⟨trivial,⟨⟨(zc zhJ),trivial⟩,trivial⟩⟩,trivial⟩⟩,⟨⟨⟨trivial,⟨⟨(zc ziK),trivial⟩,trivial⟩⟩,trivial⟩,trivial⟩⟩,⟨⟨⟨⟨⟨⟨(zc zn7),trivial⟩,trivial⟩,trivial⟩,trivial⟩,⟨⟨trivial,⟨⟨(zc zhd),trivial⟩,trivial⟩⟩,trivial⟩⟩,⟨⟨⟨trivial,⟨⟨(zc zid),trivial⟩,trivial⟩⟩,trivial⟩,trivial⟩⟩⟩,⟨⟨⟨⟨⟨⟨⟨(zc zof),trivial⟩,trivial⟩,trivial⟩,trivial⟩,⟨⟨trivial,⟨⟨(zc zht),trivial⟩,trivial⟩⟩,trivial⟩⟩,⟨⟨⟨trivial,⟨⟨(zc ziu),trivial⟩,trivial⟩⟩,trivial⟩,trivial⟩⟩,⟨⟨⟨⟨⟨⟨(zc zl8),trivial⟩,trivial⟩,trivial⟩,trivial⟩,⟨⟨trivial,⟨⟨(zc zgX),trivial⟩,trivial⟩⟩,trivial⟩⟩,⟨⟨⟨trivial,⟨⟨(zc zhX),trivial⟩,trivial⟩⟩,trivial⟩,trivial⟩⟩⟩⟩⟩⟩⟩,trivial⟩,trivial⟩
def sm72:Hk:=jV zr (ssT smT72) 72 zd
def smT101:Tr (List Sm):=(.node (.node (.node (.node .nil (.node (.node (.node (.node (.node (.node (.node (.node (.node (.leaf s101_8) .nil) .nil) .nil) .nil) .nil) .nil) .nil) .nil) .nil)) (.node (.node (.node (.node (.node (.node (.node (.node (.node (.node (.leaf s101_4) .nil) .nil) .nil) .nil) .nil) .nil) .nil) .nil) .nil) .nil)) (.node (.node (.node (.node (.node (.node (.node (.node (.node (.node (.node (.leaf s101_2) .nil) .nil) .nil) .nil) .nil) .nil) .nil) .nil) .nil) .nil) .nil)) (.node (.node (.node (.node (.node (.node (.node (.node (.node (.node (.node (.node (.leaf s101_1) .nil) .nil) .nil) .nil) .nil) .nil) .nil) .nil) (.node (.node (.node (.node (.node (.node (.node (.node (.leaf znc) .nil) .nil) .nil) .nil) .nil) .nil) .nil) .nil)) (.node (.node (.node (.node (.node .nil (.node (.node (.node (.node (.leaf zkT) .nil) .nil) .nil) .nil)) .nil) .nil) .nil) .nil)) .nil) .nil))
theorem zn1:TrP (zaa zdI 101 zd) smT101:=⟨⟨⟨⟨trivial,⟨⟨⟨⟨⟨⟨⟨⟨⟨(zc zor),trivial⟩,trivial⟩,trivial⟩,trivial⟩,trivial⟩,trivial⟩,trivial⟩,trivial⟩,trivial⟩⟩,⟨⟨⟨⟨⟨⟨⟨⟨⟨⟨(zc zos),trivial⟩,trivial⟩,trivial⟩,trivial⟩,trivial⟩,trivial⟩,trivial⟩,trivial⟩,trivial⟩,trivial⟩⟩,⟨⟨⟨⟨⟨⟨⟨⟨⟨⟨⟨(zc zot),trivial⟩,trivial⟩,trivial⟩,trivial⟩,trivial⟩,trivial⟩,trivial⟩,trivial⟩,trivial⟩,trivial⟩,trivial⟩⟩,⟨⟨⟨⟨⟨⟨⟨⟨⟨⟨⟨⟨(zc zou),trivial⟩,trivial⟩,trivial⟩,trivial⟩,trivial⟩,trivial⟩,trivial⟩,trivial⟩,⟨⟨⟨⟨⟨⟨⟨⟨(zc zmg),trivial⟩,trivial⟩,trivial⟩,trivial⟩,trivial⟩,trivial⟩,trivial⟩,trivial⟩⟩,⟨⟨⟨⟨⟨trivial,⟨⟨⟨⟨(zc zkS),trivial⟩,trivial⟩,trivial⟩,trivial⟩⟩,trivial⟩,trivial⟩,trivial⟩,trivial⟩⟩,trivial⟩,trivial⟩⟩
def zes:Hk:=jV zdI (ssT smT101) 101 zd
def smT243:Tr (List Sm):=(.node (.node (.node (.node .nil (.node (.node (.node (.node (.node .nil (.node (.node .nil (.node (.node (.leaf zfp) .nil) .nil)) .nil)) .nil) .nil) .nil) .nil)) .nil) .nil) .nil)
theorem zn0:TrP (zaa mc243 243 zd) smT243:=⟨⟨⟨⟨trivial,⟨⟨⟨⟨⟨trivial,⟨⟨trivial,⟨⟨(zc zf5),trivial⟩,trivial⟩⟩,trivial⟩⟩,trivial⟩,trivial⟩,trivial⟩,trivial⟩⟩,trivial⟩,trivial⟩,trivial⟩
def zdH:Hk:=jV mc243 (ssT smT243) 243 zd
def smT245:Tr (List Sm):=(.node (.node (.node (.node (.node (.node (.node (.node (.node .nil (.node (.node .nil (.node (.node (.leaf zfo) .nil) .nil)) .nil)) (.node .nil (.node (.node .nil (.node (.node (.leaf zfn) .nil) .nil)) .nil))) .nil) .nil) .nil) .nil) .nil) .nil) .nil)
theorem znZ:TrP (zaa znr 245 zd) smT245:=⟨⟨⟨⟨⟨⟨⟨⟨⟨trivial,⟨⟨trivial,⟨⟨(zc zf4),trivial⟩,trivial⟩⟩,trivial⟩⟩,⟨trivial,⟨⟨trivial,⟨⟨(zc zf3),trivial⟩,trivial⟩⟩,trivial⟩⟩⟩,trivial⟩,trivial⟩,trivial⟩,trivial⟩,trivial⟩,trivial⟩,trivial⟩
def zcy:Hk:=jV znr (ssT smT245) 245 zd
def smT291:Tr (List Sm):=(.node (.node (.node (.node (.node (.node (.node (.node (.node .nil (.node (.node .nil (.node (.node (.leaf zfm) .nil) .nil)) .nil)) (.node .nil (.node (.node .nil (.node (.node (.leaf zfl) .nil) .nil)) .nil))) .nil) .nil) .nil) .nil) .nil) .nil) .nil)
theorem znY:TrP (zaa znq 291 zd) smT291:=⟨⟨⟨⟨⟨⟨⟨⟨⟨trivial,⟨⟨trivial,⟨⟨(zc zf2),trivial⟩,trivial⟩⟩,trivial⟩⟩,⟨trivial,⟨⟨trivial,⟨⟨(zc zf1),trivial⟩,trivial⟩⟩,trivial⟩⟩⟩,trivial⟩,trivial⟩,trivial⟩,trivial⟩,trivial⟩,trivial⟩,trivial⟩
def zb4:Hk:=jV znq (ssT smT291) 291 zd
variable {E:Env}
def LenB (E:Env):Prop:=zf E Tryz.prog (fun G l h fa k=>bc (Nat.beq G 197) (lenX l h fa k) 1)
def AnyB (E:Env):Prop:=zf E Tryz.prog (fun G l h fa k=>bc (Nat.beq G 239) (anyX l h fa k) 1)
structure LenOk (E:Env):Prop where
 len:LenB E
 any:AnyB E
def jx (E:Env):Prop:=∀ E':Env,(∀ q,q≠7->E'.s q=E.s q)->LenOk E'
theorem jx.one (h:jx E):LenOk E:=h E (fun _ _=>rfl)
theorem yC {C:Nat->Option Hk} {a:Nat} {s:Hk} (hs:zf E Tryz.prog (fun G l h fa k=>bc (Nat.beq G a) (s l h fa k) 1))
  (hC:∀ F t,C F=some t->zf E Tryz.prog (fun G l h fa k=>bc (Nat.beq G F) (t l h fa k) 1)):∀ F t,bc (Nat.beq F a) (some s) (C F)=some t->zf E Tryz.prog (fun G l h fa k=>bc (Nat.beq G F) (t l h fa k) 1):=by
 intro F t h
 cases e:Nat.beq F a with
 | true=>
  rw[e]at h
  have h:some s=some t:=h
  cases h
  have e:F=a:=by simpa using e
  subst e
  exact hs
 | false=>rw[e]at h;exact hC F t h
theorem zrf:∀ F t,(none:Option Hk)=some t->zf E Tryz.prog (fun G l h fa k=>bc (Nat.beq G F) (t l h fa k) 1):=fun F t h=>by cases h
theorem hk0_ok (hlen:LenOk E):∀ F t,hk0 F=some t->zf E Tryz.prog (fun G l h fa k=>bc (Nat.beq G F) (t l h fa k) 1):=yC (C:=fun F=>(bc (Nat.beq F 239) (some anyX) none)) (hlen.len) (yC (C:=fun F=>none) (hlen.any) (zrf))
theorem cx0_ok (hlen:LenOk E):CxOk E Tryz.prog (zW Tryz.prog) cx0:=⟨zq,yE,fun F i h=>zcl h,hk0_ok hlen⟩
theorem jD (hlen:LenOk E):zf E Tryz.prog zd:=zai (cx0_ok hlen) 100
theorem hk0_okA (hlen:jx E):∀ F t,hk0 F=some t->zf E Tryz.prog (fun G l h fa k=>bc (Nat.beq G F) (t l h fa k) 1):=hk0_ok hlen.one
def hkH0 (F:Nat):Option Hk:=(bc (Nat.beq F 15) (some sm15) (bc (Nat.beq F 19) (some sm19) (bc (Nat.beq F 37) (some sm37) (bc (Nat.beq F 48) (some sm48) (bc (Nat.beq F 52) (some sm52) (bc (Nat.beq F 72) (some sm72) (bc (Nat.beq F 101) (some zes) (bc (Nat.beq F 243) (some zdH) (bc (Nat.beq F 245) (some zcy) (bc (Nat.beq F 291) (some zb4) (hk0 F)))))))))))
theorem hkH0_ok (hlen:jx E):∀ F t,hkH0 F=some t->zf E Tryz.prog (fun G l h fa k=>bc (Nat.beq G F) (t l h fa k) 1):=yC (C:=fun F=>(bc (Nat.beq F 19) (some sm19) (bc (Nat.beq F 37) (some sm37) (bc (Nat.beq F 48) (some sm48) (bc (Nat.beq F 52) (some sm52) (bc (Nat.beq F 72) (some sm72) (bc (Nat.beq F 101) (some zes) (bc (Nat.beq F 243) (some zdH) (bc (Nat.beq F 245) (some zcy) (bc (Nat.beq F 291) (some zb4) (hk0 F))))))))))) (zb3 (fun E' h=>jD (hlen E' h)) zpA) (yC (C:=fun F=>(bc (Nat.beq F 37) (some sm37) (bc (Nat.beq F 48) (some sm48) (bc (Nat.beq F 52) (some sm52) (bc (Nat.beq F 72) (some sm72) (bc (Nat.beq F 101) (some zes) (bc (Nat.beq F 243) (some zdH) (bc (Nat.beq F 245) (some zcy) (bc (Nat.beq F 291) (some zb4) (hk0 F)))))))))) (zb3 (fun E' h=>jD (hlen E' h)) zpz) (yC (C:=fun F=>(bc (Nat.beq F 48) (some sm48) (bc (Nat.beq F 52) (some sm52) (bc (Nat.beq F 72) (some sm72) (bc (Nat.beq F 101) (some zes) (bc (Nat.beq F 243) (some zdH) (bc (Nat.beq F 245) (some zcy) (bc (Nat.beq F 291) (some zb4) (hk0 F))))))))) (zb3 (fun E' h=>jD (hlen E' h)) zpv) (yC (C:=fun F=>(bc (Nat.beq F 52) (some sm52) (bc (Nat.beq F 72) (some sm72) (bc (Nat.beq F 101) (some zes) (bc (Nat.beq F 243) (some zdH) (bc (Nat.beq F 245) (some zcy) (bc (Nat.beq F 291) (some zb4) (hk0 F)))))))) (zb3 (fun E' h=>jD (hlen E' h)) zpu) (yC (C:=fun F=>(bc (Nat.beq F 72) (some sm72) (bc (Nat.beq F 101) (some zes) (bc (Nat.beq F 243) (some zdH) (bc (Nat.beq F 245) (some zcy) (bc (Nat.beq F 291) (some zb4) (hk0 F))))))) (zb3 (fun E' h=>jD (hlen E' h)) zpt) (yC (C:=fun F=>(bc (Nat.beq F 101) (some zes) (bc (Nat.beq F 243) (some zdH) (bc (Nat.beq F 245) (some zcy) (bc (Nat.beq F 291) (some zb4) (hk0 F)))))) (zb3 (fun E' h=>jD (hlen E' h)) zps) (yC (C:=fun F=>(bc (Nat.beq F 243) (some zdH) (bc (Nat.beq F 245) (some zcy) (bc (Nat.beq F 291) (some zb4) (hk0 F))))) (zb3 (fun E' h=>jD (hlen E' h)) zn1) (yC (C:=fun F=>(bc (Nat.beq F 245) (some zcy) (bc (Nat.beq F 291) (some zb4) (hk0 F)))) (zb3 (fun E' h=>jD (hlen E' h)) zn0) (yC (C:=fun F=>(bc (Nat.beq F 291) (some zb4) (hk0 F))) (zb3 (fun E' h=>jD (hlen E' h)) znZ) (yC (C:=fun F=>(hk0 F)) (zb3 (fun E' h=>jD (hlen E' h)) znY) (hk0_okA hlen))))))))))
def hkG (F:Nat):Option Hk:=(hkH0 F)
theorem hkG_ok (hlen:jx E):∀ F t,hkG F=some t->zf E Tryz.prog (fun G l h fa k=>bc (Nat.beq G F) (t l h fa k) 1):=hkH0_ok hlen
def cxG:Cx:=⟨fnX,hkG,20000⟩
def callG:zu:=zdP cxG 100
theorem cxG_ok (hlen:jx E):CxOk E Tryz.prog (zW Tryz.prog) cxG:=⟨zq,yE,fun F i h=>zcl h,hkG_ok hlen⟩
theorem zlF (hlen:jx E):zf E Tryz.prog callG:=zai (cxG_ok hlen) 100
def ct0_154:Hk:=cntT xn154.body xn154.res callG 154 20000
def znM:Hk:=cntT xn164.body xn164.res callG 164 20000
def hkN0 (F:Nat):Option Hk:=(bc (Nat.beq F 154) (some ct0_154) (bc (Nat.beq F 164) (some znM) (hkG F)))
theorem znE (hlen:jx E):∀ F t,hkN0 F=some t->zf E Tryz.prog (fun G l h fa k=>bc (Nat.beq G F) (t l h fa k) 1):=yC (C:=fun F=>(bc (Nat.beq F 164) (some znM) (hkG F))) (zmP zq yE (zlF hlen) Tryz.func154 Tryz.call154 cn154 (drB wn154)) (yC (C:=fun F=>(hkG F)) (zmP zq yE (zlF hlen) Tryz.func164 Tryz.call164 cn164 (drB wn164)) (hkG_ok hlen))
def cxN0:Cx:=⟨fnX,hkN0,20000⟩
def callN0:zu:=zdP cxN0 100
theorem cxN0_ok (hlen:jx E):CxOk E Tryz.prog (zW Tryz.prog) cxN0:=⟨zq,yE,fun F i h=>zcl h,znE hlen⟩
theorem zoX (hlen:jx E):zf E Tryz.prog callN0:=zai (cxN0_ok hlen) 100
def ct1_82:Hk:=cntT xn82.body xn82.res callN0 82 20000
def hkN1 (F:Nat):Option Hk:=(bc (Nat.beq F 82) (some ct1_82) (hkN0 F))
theorem znD (hlen:jx E):∀ F t,hkN1 F=some t->zf E Tryz.prog (fun G l h fa k=>bc (Nat.beq G F) (t l h fa k) 1):=yC (C:=fun F=>(hkN0 F)) (zmP zq yE (zoX hlen) Tryz.func82 Tryz.call82 cn82 (drB wn82)) (znE hlen)
def cxN1:Cx:=⟨fnX,hkN1,20000⟩
def zaO:zu:=zdP cxN1 100
theorem cxN1_ok (hlen:jx E):CxOk E Tryz.prog (zW Tryz.prog) cxN1:=⟨zq,yE,fun F i h=>zcl h,znD hlen⟩
theorem jk (hlen:jx E):zf E Tryz.prog zaO:=zai (cxN1_ok hlen) 100
def zl7:zc4:=subT yc94 rs94 zaO 94 20000 zbz
def zl6:zc4:=subT yc95 rs95 zaO 95 20000 zbz
def zgR (F:Nat):Option zc4:=(bc (Nat.beq F 94) (some zl7) (bc (Nat.beq F 95) (some zl6) none))
theorem zeq (hlen:jx E) {s:LS} {yid:Ev.P} {hand:zdV} (hh:zb8 E Tryz.prog (zA E s yid) yid hand):SubA E Tryz.prog (zA E s yid) yid hand zgR:=by
 intro G t h
 unfold zgR at h
 cases e94':Nat.beq G 94 with
 | true=>
  rw[e94']at h
  have h:some zl7=some t:=h
  cases h
  have e:G=94:=by simpa using e94'
  subst e
  refine⟨Tryz.call94,fun l hp fa k hk hfa=>?_⟩
  have hy:=y94
  split at hy
  ·rename_i c hc
   unfold zl7 at hk
   rw[<- hy]at hk
   exact zfY zq yE (jk hlen) Tryz.func94 hc e94 s hand yid l hp fa k hh zaG hk hfa
  ·rename_i hc
   exact absurd hc (by have : Tryz.f94.body.isSome = true := by kernel_rfl
                       intro hn;rw[hn]at this;cases this)
 | false=>
 rw[e94']at h
 cases e95':Nat.beq G 95 with
 | true=>
  rw[e95']at h
  have h:some zl6=some t:=h
  cases h
  have e:G=95:=by simpa using e95'
  subst e
  refine⟨Tryz.call95,fun l hp fa k hk hfa=>?_⟩
  have hy:=y95
  split at hy
  ·rename_i c hc
   unfold zl6 at hk
   rw[<- hy]at hk
   exact zfY zq yE (jk hlen) Tryz.func95 hc e95 s hand yid l hp fa k hh zaG hk hfa
  ·rename_i hc
   exact absurd hc (by have : Tryz.f95.body.isSome = true := by kernel_rfl
                       intro hn;rw[hn]at this;cases this)
 | false=>
 rw[e95']at h
 cases h
def zmA:zc5:=itrT yc91 zaO 91 20000 zgR
def zgp:zc5:=itrT yc232 zaO 232 20000 zgR
def zgo:zc5:=itrT yc241 zaO 241 20000 zgR
def zeL (F:Nat):Option zc5:=(bc (Nat.beq F 91) (some zmA) (bc (Nat.beq F 232) (some zgp) (bc (Nat.beq F 241) (some zgo) none)))
theorem zbD (hlen:jx E):znT E Tryz.prog zeL:=by
 intro G it h
 unfold zeL at h
 cases e91':Nat.beq G 91 with
 | true=>
  rw[e91']at h
  have h:some zmA=some it:=h
  cases h
  have e:G=91:=by simpa using e91'
  subst e
  refine⟨Tryz.call91,fun s hand yid l hp fa k hh hk hfa=>?_⟩
  have hy:=y91
  split at hy
  ·rename_i c hc
   unfold zmA at hk
   rw[<- hy]at hk
   exact zdn zq yE (jk hlen) Tryz.func91 hc e91 s hand yid l hp fa k hh (zeq hlen hh) hk hfa
  ·rename_i hc
   exact absurd hc (by have : Tryz.f91.body.isSome = true := by kernel_rfl
                       intro hn;rw[hn]at this;cases this)
 | false=>
 rw[e91']at h
 cases e232':Nat.beq G 232 with
 | true=>
  rw[e232']at h
  have h:some zgp=some it:=h
  cases h
  have e:G=232:=by simpa using e232'
  subst e
  refine⟨Tryz.call232,fun s hand yid l hp fa k hh hk hfa=>?_⟩
  have hy:=y232
  split at hy
  ·rename_i c hc
   unfold zgp at hk
   rw[<- hy]at hk
   exact zdn zq yE (jk hlen) Tryz.func232 hc e232 s hand yid l hp fa k hh (zeq hlen hh) hk hfa
  ·rename_i hc
   exact absurd hc (by have : Tryz.f232.body.isSome = true := by kernel_rfl
                       intro hn;rw[hn]at this;cases this)
 | false=>
 rw[e232']at h
 cases e241':Nat.beq G 241 with
 | true=>
  rw[e241']at h
  have h:some zgo=some it:=h
  cases h
  have e:G=241:=by simpa using e241'
  subst e
  refine⟨Tryz.call241,fun s hand yid l hp fa k hh hk hfa=>?_⟩
  have hy:=y241
  split at hy
  ·rename_i c hc
   unfold zgo at hk
   rw[<- hy]at hk
   exact zdn zq yE (jk hlen) Tryz.func241 hc e241 s hand yid l hp fa k hh (zeq hlen hh) hk hfa
  ·rename_i hc
   exact absurd hc (by have : Tryz.f241.body.isSome = true := by kernel_rfl
                       intro hn;rw[hn]at this;cases this)
 | false=>
 rw[e241']at h
 cases h
def zmj:Hk:=rfnT yc24 rs24 zaO 24 20000 zeL
theorem zoz (hlen:jx E):zf E Tryz.prog (fun G l h fa k=>bc (Nat.beq G 24) (zmj l h fa k) 1):=by
 have hy:=y24
 split at hy
 ·rename_i c hc
  unfold zmj
  rw[<- hy]
  exact zdd zq yE (jk hlen) (zbD hlen) Tryz.func24 Tryz.call24 hc e24
 ·rename_i hc
  exact absurd hc (by have : Tryz.f24.body.isSome = true := by kernel_rfl
                      intro hn;rw[hn]at this;cases this)
def zf7:Hk:=rfnT yc71 rs71 zaO 71 20000 zeL
theorem zoy (hlen:jx E):zf E Tryz.prog (fun G l h fa k=>bc (Nat.beq G 71) (zf7 l h fa k) 1):=by
 have hy:=y71
 split at hy
 ·rename_i c hc
  unfold zf7
  rw[<- hy]
  exact zdd zq yE (jk hlen) (zbD hlen) Tryz.func71 Tryz.call71 hc e71
 ·rename_i hc
  exact absurd hc (by have : Tryz.f71.body.isSome = true := by kernel_rfl
                      intro hn;rw[hn]at this;cases this)
def zeu:Hk:=rfnT yc80 rs80 zaO 80 20000 zeL
theorem zox (hlen:jx E):zf E Tryz.prog (fun G l h fa k=>bc (Nat.beq G 80) (zeu l h fa k) 1):=by
 have hy:=y80
 split at hy
 ·rename_i c hc
  unfold zeu
  rw[<- hy]
  exact zdd zq yE (jk hlen) (zbD hlen) Tryz.func80 Tryz.call80 hc e80
 ·rename_i hc
  exact absurd hc (by have : Tryz.f80.body.isSome = true := by kernel_rfl
                      intro hn;rw[hn]at this;cases this)
def zde:Hk:=rfnT yc84 rs84 zaO 84 20000 zeL
theorem zow (hlen:jx E):zf E Tryz.prog (fun G l h fa k=>bc (Nat.beq G 84) (zde l h fa k) 1):=by
 have hy:=y84
 split at hy
 ·rename_i c hc
  unfold zde
  rw[<- hy]
  exact zdd zq yE (jk hlen) (zbD hlen) Tryz.func84 Tryz.call84 hc e84
 ·rename_i hc
  exact absurd hc (by have : Tryz.f84.body.isSome = true := by kernel_rfl
                      intro hn;rw[hn]at this;cases this)
def zba:Hk:=rfnT yc170 rs170 zaO 170 20000 zeL
theorem zmk (hlen:jx E):zf E Tryz.prog (fun G l h fa k=>bc (Nat.beq G 170) (zba l h fa k) 1):=by
 have hy:=y170
 split at hy
 ·rename_i c hc
  unfold zba
  rw[<- hy]
  exact zdd zq yE (jk hlen) (zbD hlen) Tryz.func170 Tryz.call170 hc e170
 ·rename_i hc
  exact absurd hc (by have : Tryz.f170.body.isSome = true := by kernel_rfl
                      intro hn;rw[hn]at this;cases this)
def hkR0 (F:Nat):Option Hk:=(bc (Nat.beq F 24) (some zmj) (bc (Nat.beq F 71) (some zf7) (bc (Nat.beq F 80) (some zeu) (bc (Nat.beq F 84) (some zde) (bc (Nat.beq F 170) (some zba) (hkN1 F))))))
theorem znC (hlen:jx E):∀ F t,hkR0 F=some t->zf E Tryz.prog (fun G l h fa k=>bc (Nat.beq G F) (t l h fa k) 1):=yC (C:=fun F=>(bc (Nat.beq F 71) (some zf7) (bc (Nat.beq F 80) (some zeu) (bc (Nat.beq F 84) (some zde) (bc (Nat.beq F 170) (some zba) (hkN1 F)))))) (zoz hlen) (yC (C:=fun F=>(bc (Nat.beq F 80) (some zeu) (bc (Nat.beq F 84) (some zde) (bc (Nat.beq F 170) (some zba) (hkN1 F))))) (zoy hlen) (yC (C:=fun F=>(bc (Nat.beq F 84) (some zde) (bc (Nat.beq F 170) (some zba) (hkN1 F)))) (zox hlen) (yC (C:=fun F=>(bc (Nat.beq F 170) (some zba) (hkN1 F))) (zow hlen) (yC (C:=fun F=>(hkN1 F)) (zmk hlen) (znD hlen)))))
def cxR0:Cx:=⟨fnX,hkR0,20000⟩
def zcp:zu:=zdP cxR0 100
theorem cxR0_ok (hlen:jx E):CxOk E Tryz.prog (zW Tryz.prog) cxR0:=⟨zq,yE,fun F i h=>zcl h,znC hlen⟩
theorem zaC (hlen:jx E):zf E Tryz.prog zcp:=zai (cxR0_ok hlen) 100
def zl5:zc4:=subT yc94 rs94 zcp 94 20000 zbz
def zl4:zc4:=subT yc95 rs95 zcp 95 20000 zbz
def zgQ (F:Nat):Option zc4:=(bc (Nat.beq F 94) (some zl5) (bc (Nat.beq F 95) (some zl4) none))
theorem zep (hlen:jx E) {s:LS} {yid:Ev.P} {hand:zdV} (hh:zb8 E Tryz.prog (zA E s yid) yid hand):SubA E Tryz.prog (zA E s yid) yid hand zgQ:=by
 intro G t h
 unfold zgQ at h
 cases e94':Nat.beq G 94 with
 | true=>
  rw[e94']at h
  have h:some zl5=some t:=h
  cases h
  have e:G=94:=by simpa using e94'
  subst e
  refine⟨Tryz.call94,fun l hp fa k hk hfa=>?_⟩
  have hy:=y94
  split at hy
  ·rename_i c hc
   unfold zl5 at hk
   rw[<- hy]at hk
   exact zfY zq yE (zaC hlen) Tryz.func94 hc e94 s hand yid l hp fa k hh zaG hk hfa
  ·rename_i hc
   exact absurd hc (by have : Tryz.f94.body.isSome = true := by kernel_rfl
                       intro hn;rw[hn]at this;cases this)
 | false=>
 rw[e94']at h
 cases e95':Nat.beq G 95 with
 | true=>
  rw[e95']at h
  have h:some zl4=some t:=h
  cases h
  have e:G=95:=by simpa using e95'
  subst e
  refine⟨Tryz.call95,fun l hp fa k hk hfa=>?_⟩
  have hy:=y95
  split at hy
  ·rename_i c hc
   unfold zl4 at hk
   rw[<- hy]at hk
   exact zfY zq yE (zaC hlen) Tryz.func95 hc e95 s hand yid l hp fa k hh zaG hk hfa
  ·rename_i hc
   exact absurd hc (by have : Tryz.f95.body.isSome = true := by kernel_rfl
                       intro hn;rw[hn]at this;cases this)
 | false=>
 rw[e95']at h
 cases h
def zmz:zc5:=itrT yc91 zcp 91 20000 zgQ
def zgn:zc5:=itrT yc232 zcp 232 20000 zgQ
def zgm:zc5:=itrT yc241 zcp 241 20000 zgQ
def itrX1 (F:Nat):Option zc5:=(bc (Nat.beq F 91) (some zmz) (bc (Nat.beq F 232) (some zgn) (bc (Nat.beq F 241) (some zgm) none)))
theorem zq4 (hlen:jx E):znT E Tryz.prog itrX1:=by
 intro G it h
 unfold itrX1 at h
 cases e91':Nat.beq G 91 with
 | true=>
  rw[e91']at h
  have h:some zmz=some it:=h
  cases h
  have e:G=91:=by simpa using e91'
  subst e
  refine⟨Tryz.call91,fun s hand yid l hp fa k hh hk hfa=>?_⟩
  have hy:=y91
  split at hy
  ·rename_i c hc
   unfold zmz at hk
   rw[<- hy]at hk
   exact zdn zq yE (zaC hlen) Tryz.func91 hc e91 s hand yid l hp fa k hh (zep hlen hh) hk hfa
  ·rename_i hc
   exact absurd hc (by have : Tryz.f91.body.isSome = true := by kernel_rfl
                       intro hn;rw[hn]at this;cases this)
 | false=>
 rw[e91']at h
 cases e232':Nat.beq G 232 with
 | true=>
  rw[e232']at h
  have h:some zgn=some it:=h
  cases h
  have e:G=232:=by simpa using e232'
  subst e
  refine⟨Tryz.call232,fun s hand yid l hp fa k hh hk hfa=>?_⟩
  have hy:=y232
  split at hy
  ·rename_i c hc
   unfold zgn at hk
   rw[<- hy]at hk
   exact zdn zq yE (zaC hlen) Tryz.func232 hc e232 s hand yid l hp fa k hh (zep hlen hh) hk hfa
  ·rename_i hc
   exact absurd hc (by have : Tryz.f232.body.isSome = true := by kernel_rfl
                       intro hn;rw[hn]at this;cases this)
 | false=>
 rw[e232']at h
 cases e241':Nat.beq G 241 with
 | true=>
  rw[e241']at h
  have h:some zgm=some it:=h
  cases h
  have e:G=241:=by simpa using e241'
  subst e
  refine⟨Tryz.call241,fun s hand yid l hp fa k hh hk hfa=>?_⟩
  have hy:=y241
  split at hy
  ·rename_i c hc
   unfold zgm at hk
   rw[<- hy]at hk
   exact zdn zq yE (zaC hlen) Tryz.func241 hc e241 s hand yid l hp fa k hh (zep hlen hh) hk hfa
  ·rename_i hc
   exact absurd hc (by have : Tryz.f241.body.isSome = true := by kernel_rfl
                       intro hn;rw[hn]at this;cases this)
 | false=>
 rw[e241']at h
 cases h
def zmi:Hk:=rfnT yc83 rs83 zcp 83 20000 itrX1
theorem zov (hlen:jx E):zf E Tryz.prog (fun G l h fa k=>bc (Nat.beq G 83) (zmi l h fa k) 1):=by
 have hy:=y83
 split at hy
 ·rename_i c hc
  unfold zmi
  rw[<- hy]
  exact zdd zq yE (zaC hlen) (zq4 hlen) Tryz.func83 Tryz.call83 hc e83
 ·rename_i hc
  exact absurd hc (by have : Tryz.f83.body.isSome = true := by kernel_rfl
                      intro hn;rw[hn]at this;cases this)
def hkR1 (F:Nat):Option Hk:=(bc (Nat.beq F 83) (some zmi) (hkR0 F))
theorem znB (hlen:jx E):∀ F t,hkR1 F=some t->zf E Tryz.prog (fun G l h fa k=>bc (Nat.beq G F) (t l h fa k) 1):=yC (C:=fun F=>(hkR0 F)) (zov hlen) (znC hlen)
def cxR1:Cx:=⟨fnX,hkR1,20000⟩
def zmT:zu:=zdP cxR1 100
theorem znL (hlen:jx E):CxOk E Tryz.prog (zW Tryz.prog) cxR1:=⟨zq,yE,fun F i h=>zcl h,znB hlen⟩
theorem zfN (hlen:jx E):zf E Tryz.prog zmT:=zai (znL hlen) 100
def df13:Hk:=dfnT x13.body x13.res zmT (dcallT cxR1 zmT) 13 20000
def hk1 (F:Nat):Option Hk:=(bc (Nat.beq F 13) (some df13) (hkR1 F))
theorem hk1_ok (hlen:jx E):∀ F t,hk1 F=some t->zf E Tryz.prog (fun G l h fa k=>bc (Nat.beq G F) (t l h fa k) 1):=yC (C:=fun F=>(hkR1 F)) (dfn_ok zq yE (zfN hlen) (zoS (znL hlen) (zfN hlen)) Tryz.func13 Tryz.call13 cx13 (drB wx13)) (znB hlen)
def cx1:Cx:=⟨fnX,hk1,20000⟩
def zcZ:zu:=zdP cx1 100
theorem zmN (hlen:jx E):CxOk E Tryz.prog (zW Tryz.prog) cx1:=⟨zq,yE,fun F i h=>zcl h,hk1_ok hlen⟩
theorem zrU (hlen:jx E):zf E Tryz.prog zcZ:=zai (zmN hlen) 100
end Go.Ev.X
end
