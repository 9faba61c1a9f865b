import Derived.Test.YtcohamkngfehlaaGreatDoorSC
import Derived.Test.YtcohamkngfehlaaGreatDoorSSa
set_option linter.unusedSimpArgs false
set_option linter.unusedVariables false
set_option maxRecDepth 100000
noncomputable section
namespace Go.Ev.X
open Go Go.Ev Go.Proofs
def smT15:Tr (List Sm):=(.node (.node (.node (.node (.node (.node (.node (.node (.node (.node (.node .nil (.node (.node (.leaf zkQ) .nil) .nil)) .nil) .nil) .nil) (.node (.node (.node (.node .nil (.node (.node (.leaf zkO) .nil) .nil)) .nil) .nil) .nil)) .nil) .nil) .nil) .nil) .nil) .nil)
theorem zpz:TrP (zar mc15 15 zd) smT15:=⟨⟨⟨⟨⟨⟨⟨⟨⟨⟨⟨trivial,⟨⟨(zc zkP),trivial⟩,trivial⟩⟩,trivial⟩,trivial⟩,trivial⟩,⟨⟨⟨⟨trivial,⟨⟨(zc zkN),trivial⟩,trivial⟩⟩,trivial⟩,trivial⟩,trivial⟩⟩,trivial⟩,trivial⟩,trivial⟩,trivial⟩,trivial⟩,trivial⟩
def sm15:Hk:=zae mc15 (ssT smT15) 15 zd
def smT37:Tr (List Sm):=(.node (.node (.node (.node (.node .nil (.node (.node (.node (.node .nil (.node (.node .nil (.node (.node (.leaf zkM) .nil) .nil)) .nil)) .nil) .nil) .nil)) (.node (.node (.node (.node (.node (.node (.node (.node (.node (.leaf s37_8) .nil) .nil) .nil) .nil) .nil) .nil) .nil) .nil) .nil)) (.node (.node (.node (.node (.node (.node (.node (.node (.node (.node (.leaf s37_4) .nil) .nil) .nil) .nil) .nil) .nil) .nil) .nil) (.node (.node (.node (.node .nil (.node (.node .nil (.node (.node (.leaf zkE) .nil) .nil)) .nil)) .nil) .nil) .nil)) .nil)) (.node (.node (.node (.node (.node (.node (.node (.node (.node (.node (.node (.leaf s37_2) .nil) .nil) .nil) .nil) .nil) .nil) .nil) .nil) (.node (.node (.node (.node .nil (.node (.node .nil (.node (.node (.leaf zkI) .nil) .nil)) .nil)) .nil) .nil) .nil)) .nil) (.node (.node .nil (.node (.node (.node (.node .nil (.node (.node .nil (.node (.node (.leaf zkA) .nil) .nil)) .nil)) .nil) .nil) .nil)) .nil))) (.node (.node (.node (.node (.node (.node (.node (.node (.node (.node (.node (.node (.leaf s37_1) .nil) .nil) .nil) .nil) .nil) .nil) .nil) .nil) (.node (.node (.node (.node (.node (.node (.node (.node (.leaf s37_17) .nil) .nil) .nil) .nil) (.node (.node .nil (.node (.node (.leaf zkK) .nil) .nil)) .nil)) .nil) .nil) .nil)) (.node (.node (.node (.node (.node .nil (.node (.node (.node (.node (.leaf znh) .nil) .nil) .nil) .nil)) .nil) .nil) .nil) .nil)) (.node (.node .nil (.node (.node (.node (.node .nil (.node (.node .nil (.node (.node (.leaf zkC) .nil) .nil)) .nil)) .nil) .nil) .nil)) .nil)) (.node (.node (.node .nil (.node (.node (.node (.node .nil (.node (.node .nil (.node (.node (.leaf zkG) .nil) .nil)) .nil)) .nil) .nil) .nil)) .nil) (.node (.node .nil (.node (.node (.node (.node .nil (.node (.node .nil (.node (.node (.leaf zky) .nil) .nil)) .nil)) .nil) .nil) .nil)) .nil))))
theorem zpv:TrP (zar zb2 37 zd) smT37:=⟨⟨⟨⟨⟨trivial,⟨⟨⟨⟨trivial,⟨⟨trivial,⟨⟨(zc zkL),trivial⟩,trivial⟩⟩,trivial⟩⟩,trivial⟩,trivial⟩,trivial⟩⟩,⟨⟨⟨⟨⟨⟨⟨⟨⟨(zc zp1),trivial⟩,trivial⟩,trivial⟩,trivial⟩,trivial⟩,trivial⟩,trivial⟩,trivial⟩,trivial⟩⟩,⟨⟨⟨⟨⟨⟨⟨⟨⟨⟨(zc zp2),trivial⟩,trivial⟩,trivial⟩,trivial⟩,trivial⟩,trivial⟩,trivial⟩,trivial⟩,⟨⟨⟨⟨trivial,⟨⟨trivial,⟨⟨(zc zkD),trivial⟩,trivial⟩⟩,trivial⟩⟩,trivial⟩,trivial⟩,trivial⟩⟩,trivial⟩⟩,⟨⟨⟨⟨⟨⟨⟨⟨⟨⟨⟨(zc zp3),trivial⟩,trivial⟩,trivial⟩,trivial⟩,trivial⟩,trivial⟩,trivial⟩,trivial⟩,⟨⟨⟨⟨trivial,⟨⟨trivial,⟨⟨(zc zkH),trivial⟩,trivial⟩⟩,trivial⟩⟩,trivial⟩,trivial⟩,trivial⟩⟩,trivial⟩,⟨⟨trivial,⟨⟨⟨⟨trivial,⟨⟨trivial,⟨⟨(zc zkz),trivial⟩,trivial⟩⟩,trivial⟩⟩,trivial⟩,trivial⟩,trivial⟩⟩,trivial⟩⟩⟩,⟨⟨⟨⟨⟨⟨⟨⟨⟨⟨⟨⟨(zc zp4),trivial⟩,trivial⟩,trivial⟩,trivial⟩,trivial⟩,trivial⟩,trivial⟩,trivial⟩,⟨⟨⟨⟨⟨⟨⟨⟨(zc zos),trivial⟩,trivial⟩,trivial⟩,trivial⟩,⟨⟨trivial,⟨⟨(zc zkJ),trivial⟩,trivial⟩⟩,trivial⟩⟩,trivial⟩,trivial⟩,trivial⟩⟩,⟨⟨⟨⟨⟨trivial,⟨⟨⟨⟨(zc zmi),trivial⟩,trivial⟩,trivial⟩,trivial⟩⟩,trivial⟩,trivial⟩,trivial⟩,trivial⟩⟩,⟨⟨trivial,⟨⟨⟨⟨trivial,⟨⟨trivial,⟨⟨(zc zkB),trivial⟩,trivial⟩⟩,trivial⟩⟩,trivial⟩,trivial⟩,trivial⟩⟩,trivial⟩⟩,⟨⟨⟨trivial,⟨⟨⟨⟨trivial,⟨⟨trivial,⟨⟨(zc zkF),trivial⟩,trivial⟩⟩,trivial⟩⟩,trivial⟩,trivial⟩,trivial⟩⟩,trivial⟩,⟨⟨trivial,⟨⟨⟨⟨trivial,⟨⟨trivial,⟨⟨(zc zkx),trivial⟩,trivial⟩⟩,trivial⟩⟩,trivial⟩,trivial⟩,trivial⟩⟩,trivial⟩⟩⟩⟩
def sm37:Hk:=zae zb2 (ssT smT37) 37 zd
def smT48:Tr (List Sm):=(.node (.node (.node (.node (.node (.node (.node (.node (.node (.node (.node .nil (.node (.node (.leaf zkw) .nil) .nil)) .nil) .nil) .nil) (.node (.node (.node (.node .nil (.node (.node (.leaf zku) .nil) .nil)) .nil) (.node (.node .nil (.node (.node (.leaf zjO) .nil) .nil)) .nil)) .nil)) (.node (.node (.node (.node (.node (.node (.node (.leaf s48_32) .nil) .nil) .nil) .nil) (.node (.node .nil (.node (.node (.leaf zj4) .nil) .nil)) .nil)) .nil) (.node (.node .nil (.node (.node .nil (.node (.node (.leaf zjy) .nil) .nil)) .nil)) .nil))) (.node (.node (.node (.node .nil (.node (.node .nil (.node (.node (.leaf zkc) .nil) .nil)) .nil)) .nil) (.node (.node .nil (.node (.node .nil (.node (.node (.leaf zjG) .nil) .nil)) .nil)) .nil)) (.node (.node (.node .nil (.node (.node .nil (.node (.node (.leaf zjW) .nil) .nil)) .nil)) .nil) (.node (.node .nil (.node (.node .nil (.node (.node (.leaf zjq) .nil) .nil)) .nil)) .nil)))) (.node (.node (.node (.node (.node .nil (.node (.node .nil (.node (.node (.leaf zkg) .nil) .nil)) .nil)) (.node (.node (.node .nil (.node (.node (.leaf zkq) .nil) .nil)) .nil) .nil)) (.node (.node .nil (.node (.node .nil (.node (.node (.leaf zjK) .nil) .nil)) .nil)) (.node (.node (.node .nil (.node (.node (.leaf zkk) .nil) .nil)) .nil) .nil))) (.node (.node (.node .nil (.node (.node .nil (.node (.node (.leaf zj0) .nil) .nil)) .nil)) .nil) (.node (.node .nil (.node (.node .nil (.node (.node (.leaf zju) .nil) .nil)) .nil)) .nil))) (.node (.node (.node (.node .nil (.node (.node .nil (.node (.node (.leaf zj8) .nil) .nil)) .nil)) .nil) (.node (.node .nil (.node (.node .nil (.node (.node (.leaf zjC) .nil) .nil)) .nil)) .nil)) (.node (.node (.node .nil (.node (.node .nil (.node (.node (.leaf zjS) .nil) .nil)) .nil)) .nil) (.node (.node .nil (.node (.node .nil (.node (.node (.leaf zjm) .nil) .nil)) .nil)) .nil))))) (.node (.node (.node (.node (.node (.node .nil (.node (.node .nil (.node (.node (.leaf zki) .nil) .nil)) .nil)) (.node (.node (.node .nil (.node (.node (.leaf zks) .nil) .nil)) .nil) .nil)) (.node (.node .nil (.node (.node .nil (.node (.node (.leaf zjM) .nil) .nil)) .nil)) (.node (.node (.node .nil (.node (.node (.leaf zkm) .nil) .nil)) .nil) .nil))) (.node (.node (.node (.node (.node (.node (.node (.leaf s48_36) .nil) .nil) .nil) .nil) (.node (.node .nil (.node (.node (.leaf zj2) .nil) .nil)) .nil)) .nil) (.node (.node .nil (.node (.node .nil (.node (.node (.leaf zjw) .nil) .nil)) .nil)) .nil))) (.node (.node (.node (.node .nil (.node (.node .nil (.node (.node (.leaf zka) .nil) .nil)) .nil)) .nil) (.node (.node .nil (.node (.node .nil (.node (.node (.leaf zjE) .nil) .nil)) .nil)) .nil)) (.node (.node (.node .nil (.node (.node .nil (.node (.node (.leaf zjU) .nil) .nil)) .nil)) .nil) (.node (.node .nil (.node (.node .nil (.node (.node (.leaf zjo) .nil) .nil)) .nil)) .nil)))) (.node (.node (.node (.node (.node .nil (.node (.node .nil (.node (.node (.leaf zke) .nil) .nil)) .nil)) (.node (.node (.node .nil (.node (.node (.leaf zko) .nil) .nil)) .nil) .nil)) (.node (.node .nil (.node (.node .nil (.node (.node (.leaf zjI) .nil) .nil)) .nil)) .nil)) (.node (.node (.node .nil (.node (.node .nil (.node (.node (.leaf zjY) .nil) .nil)) .nil)) .nil) (.node (.node .nil (.node (.node .nil (.node (.node (.leaf zjs) .nil) .nil)) .nil)) .nil))) (.node (.node (.node (.node .nil (.node (.node .nil (.node (.node (.leaf zj6) .nil) .nil)) .nil)) .nil) (.node (.node .nil (.node (.node .nil (.node (.node (.leaf zjA) .nil) .nil)) .nil)) .nil)) (.node (.node (.node (.node (.node (.node (.node (.leaf s48_60) .nil) .nil) .nil) .nil) (.node (.node .nil (.node (.node (.leaf zjQ) .nil) .nil)) .nil)) .nil) (.node (.node .nil (.node (.node .nil (.node (.node (.leaf zjk) .nil) .nil)) .nil)) .nil)))))) .nil) .nil)
theorem zpu:TrP (zar y0 48 zd) smT48:=⟨⟨⟨⟨⟨⟨⟨⟨⟨⟨⟨trivial,⟨⟨(zc zkv),trivial⟩,trivial⟩⟩,trivial⟩,trivial⟩,trivial⟩,⟨⟨⟨⟨trivial,⟨⟨(zc zkt),trivial⟩,trivial⟩⟩,trivial⟩,⟨⟨trivial,⟨⟨(zc zjN),trivial⟩,trivial⟩⟩,trivial⟩⟩,trivial⟩⟩,⟨⟨⟨⟨⟨⟨⟨(zc zor),trivial⟩,trivial⟩,trivial⟩,trivial⟩,⟨⟨trivial,⟨⟨(zc zj3),trivial⟩,trivial⟩⟩,trivial⟩⟩,trivial⟩,⟨⟨trivial,⟨⟨trivial,⟨⟨(zc zjx),trivial⟩,trivial⟩⟩,trivial⟩⟩,trivial⟩⟩⟩,⟨⟨⟨⟨trivial,⟨⟨trivial,⟨⟨(zc zkb),trivial⟩,trivial⟩⟩,trivial⟩⟩,trivial⟩,⟨⟨trivial,⟨⟨trivial,⟨⟨(zc zjF),trivial⟩,trivial⟩⟩,trivial⟩⟩,trivial⟩⟩,⟨⟨⟨trivial,⟨⟨trivial,⟨⟨(zc zjV),trivial⟩,trivial⟩⟩,trivial⟩⟩,trivial⟩,⟨⟨trivial,⟨⟨trivial,⟨⟨(zc zjp),trivial⟩,trivial⟩⟩,trivial⟩⟩,trivial⟩⟩⟩⟩,⟨⟨⟨⟨⟨trivial,⟨⟨trivial,⟨⟨(zc zkf),trivial⟩,trivial⟩⟩,trivial⟩⟩,⟨⟨⟨trivial,⟨⟨(zc zkp),trivial⟩,trivial⟩⟩,trivial⟩,trivial⟩⟩,⟨⟨trivial,⟨⟨trivial,⟨⟨(zc zjJ),trivial⟩,trivial⟩⟩,trivial⟩⟩,⟨⟨⟨trivial,⟨⟨(zc zkj),trivial⟩,trivial⟩⟩,trivial⟩,trivial⟩⟩⟩,⟨⟨⟨trivial,⟨⟨trivial,⟨⟨(zc zjZ),trivial⟩,trivial⟩⟩,trivial⟩⟩,trivial⟩,⟨⟨trivial,⟨⟨trivial,⟨⟨(zc zjt),trivial⟩,trivial⟩⟩,trivial⟩⟩,trivial⟩⟩⟩,⟨⟨⟨⟨trivial,⟨⟨trivial,⟨⟨(zc zj7),trivial⟩,trivial⟩⟩,trivial⟩⟩,trivial⟩,⟨⟨trivial,⟨⟨trivial,⟨⟨(zc zjB),trivial⟩,trivial⟩⟩,trivial⟩⟩,trivial⟩⟩,⟨⟨⟨trivial,⟨⟨trivial,⟨⟨(zc zjR),trivial⟩,trivial⟩⟩,trivial⟩⟩,trivial⟩,⟨⟨trivial,⟨⟨trivial,⟨⟨(zc zjl),trivial⟩,trivial⟩⟩,trivial⟩⟩,trivial⟩⟩⟩⟩⟩,⟨⟨⟨⟨⟨⟨trivial,⟨⟨trivial,⟨⟨(zc zkh),trivial⟩,trivial⟩⟩,trivial⟩⟩,⟨⟨⟨trivial,⟨⟨(zc zkr),trivial⟩,trivial⟩⟩,trivial⟩,trivial⟩⟩,⟨⟨trivial,⟨⟨trivial,⟨⟨(zc zjL),trivial⟩,trivial⟩⟩,trivial⟩⟩,⟨⟨⟨trivial,⟨⟨(zc zkl),trivial⟩,trivial⟩⟩,trivial⟩,trivial⟩⟩⟩,⟨⟨⟨⟨⟨⟨⟨(zc zoq),trivial⟩,trivial⟩,trivial⟩,trivial⟩,⟨⟨trivial,⟨⟨(zc zj1),trivial⟩,trivial⟩⟩,trivial⟩⟩,trivial⟩,⟨⟨trivial,⟨⟨trivial,⟨⟨(zc zjv),trivial⟩,trivial⟩⟩,trivial⟩⟩,trivial⟩⟩⟩,⟨⟨⟨⟨trivial,⟨⟨trivial,⟨⟨(zc zj9),trivial⟩,trivial⟩⟩,trivial⟩⟩,trivial⟩,⟨⟨trivial,⟨⟨trivial,⟨⟨(zc zjD),trivial⟩,trivial⟩⟩,trivial⟩⟩,trivial⟩⟩,⟨⟨⟨trivial,⟨⟨trivial,⟨⟨(zc zjT),trivial⟩,trivial⟩⟩,trivial⟩⟩,trivial⟩,⟨⟨trivial,⟨⟨trivial,⟨⟨(zc zjn),trivial⟩,trivial⟩⟩,trivial⟩⟩,trivial⟩⟩⟩⟩,⟨⟨⟨⟨⟨trivial,⟨⟨trivial,⟨⟨(zc zkd),trivial⟩,trivial⟩⟩,trivial⟩⟩,⟨⟨⟨trivial,⟨⟨(zc zkn),trivial⟩,trivial⟩⟩,trivial⟩,trivial⟩⟩,⟨⟨trivial,⟨⟨trivial,⟨⟨(zc zjH),trivial⟩,trivial⟩⟩,trivial⟩⟩,trivial⟩⟩,⟨⟨⟨trivial,⟨⟨trivial,⟨⟨(zc zjX),trivial⟩,trivial⟩⟩,trivial⟩⟩,trivial⟩,⟨⟨trivial,⟨⟨trivial,⟨⟨(zc zjr),trivial⟩,trivial⟩⟩,trivial⟩⟩,trivial⟩⟩⟩,⟨⟨⟨⟨trivial,⟨⟨trivial,⟨⟨(zc zj5),trivial⟩,trivial⟩⟩,trivial⟩⟩,trivial⟩,⟨⟨trivial,⟨⟨trivial,⟨⟨(zc zjz),trivial⟩,trivial⟩⟩,trivial⟩⟩,trivial⟩⟩,⟨⟨⟨⟨⟨⟨⟨(zc zop),trivial⟩,trivial⟩,trivial⟩,trivial⟩,⟨⟨trivial,⟨⟨(zc zjP),trivial⟩,trivial⟩⟩,trivial⟩⟩,trivial⟩,⟨⟨trivial,⟨⟨trivial,⟨⟨(zc zjj),trivial⟩,trivial⟩⟩,trivial⟩⟩,trivial⟩⟩⟩⟩⟩⟩,trivial⟩,trivial⟩
def sm48:Hk:=zae y0 (ssT smT48) 48 zd
def smT52:Tr (List Sm):=(.node (.node (.node (.node (.node (.node (.node (.node (.node (.node (.node .nil (.node (.node (.leaf zji) .nil) .nil)) .nil) .nil) .nil) (.node (.node (.node (.node .nil (.node (.node (.leaf zjg) .nil) .nil)) .nil) .nil) .nil)) .nil) .nil) .nil) .nil) .nil) .nil)
theorem zpt:TrP (zar mc52 52 zd) smT52:=⟨⟨⟨⟨⟨⟨⟨⟨⟨⟨⟨trivial,⟨⟨(zc zjh),trivial⟩,trivial⟩⟩,trivial⟩,trivial⟩,trivial⟩,⟨⟨⟨⟨trivial,⟨⟨(zc zjf),trivial⟩,trivial⟩⟩,trivial⟩,trivial⟩,trivial⟩⟩,trivial⟩,trivial⟩,trivial⟩,trivial⟩,trivial⟩,trivial⟩
def sm52:Hk:=zae mc52 (ssT smT52) 52 zd
def smT72:Tr (List Sm):=(.node (.node (.node (.node (.node (.node (.node (.node (.node (.node (.node .nil (.node (.node (.leaf zje) .nil) .nil)) .nil) .nil) (.node (.node (.node .nil (.node (.node (.leaf zi2) .nil) .nil)) .nil) .nil)) (.node (.node (.node (.node (.node (.node (.leaf s72_64) .nil) .nil) (.node (.node (.leaf zi8) .nil) .nil)) .nil) (.node (.node .nil (.node (.node (.leaf zhv) .nil) .nil)) .nil)) (.node (.node (.node .nil (.node (.node (.leaf ziw) .nil) .nil)) .nil) .nil))) (.node (.node (.node (.node (.node (.node (.node (.leaf s72_32) .nil) .nil) .nil) .nil) (.node (.node .nil (.node (.node (.leaf zhL) .nil) .nil)) .nil)) (.node (.node (.node .nil (.node (.node (.leaf ziM) .nil) .nil)) .nil) .nil)) (.node (.node (.node (.node (.node (.node (.leaf s72_96) .nil) .nil) .nil) .nil) (.node (.node .nil (.node (.node (.leaf zhf) .nil) .nil)) .nil)) (.node (.node (.node .nil (.node (.node (.leaf zif) .nil) .nil)) .nil) .nil)))) (.node (.node (.node (.node .nil (.node (.node .nil (.node (.node (.leaf zhT) .nil) .nil)) .nil)) (.node (.node (.node .nil (.node (.node (.leaf ziU) .nil) .nil)) .nil) .nil)) (.node (.node (.node (.node (.node (.node (.leaf s72_80) .nil) .nil) .nil) .nil) (.node (.node .nil (.node (.node (.leaf zhn) .nil) .nil)) .nil)) (.node (.node (.node .nil (.node (.node (.leaf zin) .nil) .nil)) .nil) .nil))) (.node (.node (.node (.node (.node (.node (.node (.leaf s72_48) .nil) .nil) .nil) .nil) (.node (.node .nil (.node (.node (.leaf zhD) .nil) .nil)) .nil)) (.node (.node (.node .nil (.node (.node (.leaf ziE) .nil) .nil)) .nil) .nil)) (.node (.node (.node (.node (.node (.node (.leaf znd) .nil) .nil) .nil) .nil) (.node (.node .nil (.node (.node (.leaf zg7) .nil) .nil)) .nil)) (.node (.node (.node .nil (.node (.node (.leaf zh7) .nil) .nil)) .nil) .nil))))) (.node (.node (.node (.node (.node (.node (.node .nil (.node (.node (.leaf zja) .nil) .nil)) .nil) (.node (.node .nil (.node (.node (.leaf zhX) .nil) .nil)) .nil)) (.node (.node (.node .nil (.node (.node (.leaf ziY) .nil) .nil)) .nil) .nil)) (.node (.node (.node (.node (.node (.node (.leaf s72_72) .nil) .nil) (.node (.node (.leaf zi4) .nil) .nil)) .nil) (.node (.node .nil (.node (.node (.leaf zhr) .nil) .nil)) .nil)) (.node (.node (.node .nil (.node (.node (.leaf zis) .nil) .nil)) .nil) .nil))) (.node (.node (.node (.node (.node (.node (.node (.leaf s72_40) .nil) .nil) .nil) .nil) (.node (.node .nil (.node (.node (.leaf zhH) .nil) .nil)) .nil)) (.node (.node (.node .nil (.node (.node (.leaf ziI) .nil) .nil)) .nil) .nil)) (.node (.node (.node (.node (.node (.node (.leaf znf) .nil) .nil) .nil) .nil) (.node (.node .nil (.node (.node (.leaf zhb) .nil) .nil)) .nil)) (.node (.node (.node .nil (.node (.node (.leaf zib) .nil) .nil)) .nil) .nil)))) (.node (.node (.node (.node .nil (.node (.node .nil (.node (.node (.leaf zhP) .nil) .nil)) .nil)) (.node (.node (.node .nil (.node (.node (.leaf ziQ) .nil) .nil)) .nil) .nil)) (.node (.node (.node (.node (.node (.node (.leaf s72_88) .nil) .nil) .nil) .nil) (.node (.node .nil (.node (.node (.leaf zhj) .nil) .nil)) .nil)) (.node (.node (.node .nil (.node (.node (.leaf zij) .nil) .nil)) .nil) .nil))) (.node (.node (.node (.node (.node (.node (.node (.leaf s72_56) .nil) .nil) .nil) .nil) (.node (.node .nil (.node (.node (.leaf zhz) .nil) .nil)) .nil)) (.node (.node (.node .nil (.node (.node (.leaf ziA) .nil) .nil)) .nil) .nil)) (.node (.node (.node (.node (.node (.node (.leaf znb) .nil) .nil) .nil) .nil) (.node (.node .nil (.node (.node (.leaf zg3) .nil) .nil)) .nil)) (.node (.node (.node .nil (.node (.node (.leaf zh3) .nil) .nil)) .nil) .nil)))))) (.node (.node (.node (.node (.node (.node (.node (.node .nil (.node (.node (.leaf zjc) .nil) .nil)) .nil) (.node (.node .nil (.node (.node (.leaf zhZ) .nil) .nil)) .nil)) (.node (.node (.node .nil (.node (.node (.leaf zi0) .nil) .nil)) .nil) .nil)) (.node (.node (.node (.node (.node (.node (.leaf s72_68) .nil) .nil) (.node (.node (.leaf zi6) .nil) .nil)) .nil) (.node (.node .nil (.node (.node (.leaf zht) .nil) .nil)) .nil)) (.node (.node (.node .nil (.node (.node (.leaf ziu) .nil) .nil)) .nil) .nil))) (.node (.node (.node (.node (.node (.node (.node (.leaf s72_36) .nil) .nil) .nil) .nil) (.node (.node .nil (.node (.node (.leaf zhJ) .nil) .nil)) .nil)) (.node (.node (.node .nil (.node (.node (.leaf ziK) .nil) .nil)) .nil) .nil)) (.node (.node (.node (.node (.node (.node (.leaf zng) .nil) .nil) .nil) .nil) (.node (.node .nil (.node (.node (.leaf zhd) .nil) .nil)) .nil)) (.node (.node (.node .nil (.node (.node (.leaf zid) .nil) .nil)) .nil) .nil)))) (.node (.node (.node (.node .nil (.node (.node .nil (.node (.node (.leaf zhR) .nil) .nil)) .nil)) (.node (.node (.node .nil (.node (.node (.leaf ziS) .nil) .nil)) .nil) .nil)) (.node (.node (.node (.node (.node (.node (.leaf s72_84) .nil) .nil) .nil) .nil) (.node (.node .nil (.node (.node (.leaf zhl) .nil) .nil)) .nil)) (.node (.node (.node .nil (.node (.node (.leaf zil) .nil) .nil)) .nil) .nil))) (.node (.node (.node (.node (.node (.node (.node (.leaf s72_52) .nil) .nil) .nil) .nil) (.node (.node .nil (.node (.node (.leaf zhB) .nil) .nil)) .nil)) (.node (.node (.node .nil (.node (.node (.leaf ziC) .nil) .nil)) .nil) .nil)) (.node (.node (.node (.node (.node (.node (.leaf znc) .nil) .nil) .nil) .nil) (.node (.node .nil (.node (.node (.leaf zg5) .nil) .nil)) .nil)) (.node (.node (.node .nil (.node (.node (.leaf zh5) .nil) .nil)) .nil) .nil))))) (.node (.node (.node (.node (.node .nil (.node (.node .nil (.node (.node (.leaf zhV) .nil) .nil)) .nil)) (.node (.node (.node .nil (.node (.node (.leaf ziW) .nil) .nil)) .nil) .nil)) (.node (.node (.node (.node (.node (.node (.leaf s72_76) .nil) .nil) .nil) .nil) (.node (.node .nil (.node (.node (.leaf zhp) .nil) .nil)) .nil)) (.node (.node (.node .nil (.node (.node (.leaf ziq) .nil) .nil)) .nil) .nil))) (.node (.node (.node (.node (.node (.node (.node (.leaf s72_44) .nil) .nil) .nil) .nil) (.node (.node .nil (.node (.node (.leaf zhF) .nil) .nil)) .nil)) (.node (.node (.node .nil (.node (.node (.leaf ziG) .nil) .nil)) .nil) .nil)) (.node (.node (.node (.node (.node (.node (.leaf zne) .nil) .nil) .nil) .nil) (.node (.node .nil (.node (.node (.leaf zg9) .nil) .nil)) .nil)) (.node (.node (.node .nil (.node (.node (.leaf zh9) .nil) .nil)) .nil) .nil)))) (.node (.node (.node (.node .nil (.node (.node .nil (.node (.node (.leaf zhN) .nil) .nil)) .nil)) (.node (.node (.node .nil (.node (.node (.leaf ziO) .nil) .nil)) .nil) .nil)) (.node (.node (.node (.node (.node (.node (.leaf s72_92) .nil) .nil) .nil) .nil) (.node (.node .nil (.node (.node (.leaf zhh) .nil) .nil)) .nil)) (.node (.node (.node .nil (.node (.node (.leaf zih) .nil) .nil)) .nil) .nil))) (.node (.node (.node (.node (.node (.node (.node (.leaf s72_60) .nil) .nil) .nil) .nil) (.node (.node .nil (.node (.node (.leaf zhx) .nil) .nil)) .nil)) (.node (.node (.node .nil (.node (.node (.leaf ziy) .nil) .nil)) .nil) .nil)) (.node (.node (.node (.node (.node (.node (.leaf zna) .nil) .nil) .nil) .nil) (.node (.node .nil (.node (.node (.leaf zg1) .nil) .nil)) .nil)) (.node (.node (.node .nil (.node (.node (.leaf zh1) .nil) .nil)) .nil) .nil))))))) .nil) .nil)
theorem zps:TrP (zar zr 72 zd) smT72:=⟨⟨⟨⟨⟨⟨⟨⟨⟨⟨⟨trivial,⟨⟨(zc zjd),trivial⟩,trivial⟩⟩,trivial⟩,trivial⟩,⟨⟨⟨trivial,⟨⟨(zc zi1),trivial⟩,trivial⟩⟩,trivial⟩,trivial⟩⟩,⟨⟨⟨⟨⟨⟨(zc zog),trivial⟩,trivial⟩,⟨⟨(zc zi7),trivial⟩,trivial⟩⟩,trivial⟩,⟨⟨trivial,⟨⟨(zc zhu),trivial⟩,trivial⟩⟩,trivial⟩⟩,⟨⟨⟨trivial,⟨⟨(zc ziv),trivial⟩,trivial⟩⟩,trivial⟩,trivial⟩⟩⟩,⟨⟨⟨⟨⟨⟨⟨(zc zoo),trivial⟩,trivial⟩,trivial⟩,trivial⟩,⟨⟨trivial,⟨⟨(zc zhK),trivial⟩,trivial⟩⟩,trivial⟩⟩,⟨⟨⟨trivial,⟨⟨(zc ziL),trivial⟩,trivial⟩⟩,trivial⟩,trivial⟩⟩,⟨⟨⟨⟨⟨⟨(zc zn8),trivial⟩,trivial⟩,trivial⟩,trivial⟩,⟨⟨trivial,⟨⟨(zc zhe),trivial⟩,trivial⟩⟩,trivial⟩⟩,⟨⟨⟨trivial,⟨⟨(zc zie),trivial⟩,trivial⟩⟩,trivial⟩,trivial⟩⟩⟩⟩,⟨⟨⟨⟨trivial,⟨⟨trivial,⟨⟨(zc zhS),trivial⟩,trivial⟩⟩,trivial⟩⟩,⟨⟨⟨trivial,⟨⟨(zc ziT),trivial⟩,trivial⟩⟩,trivial⟩,trivial⟩⟩,⟨⟨⟨⟨⟨⟨(zc zoc),trivial⟩,trivial⟩,trivial⟩,trivial⟩,⟨⟨trivial,⟨⟨(zc zhm),trivial⟩,trivial⟩⟩,trivial⟩⟩,⟨⟨⟨trivial,⟨⟨(zc zim),trivial⟩,trivial⟩⟩,trivial⟩,trivial⟩⟩⟩,⟨⟨⟨⟨⟨⟨⟨(zc zok),trivial⟩,trivial⟩,trivial⟩,trivial⟩,⟨⟨trivial,⟨⟨(zc zhC),trivial⟩,trivial⟩⟩,trivial⟩⟩,⟨⟨⟨trivial,⟨⟨(zc ziD),trivial⟩,trivial⟩⟩,trivial⟩,trivial⟩⟩,⟨⟨⟨⟨⟨⟨(zc zme),trivial⟩,trivial⟩,trivial⟩,trivial⟩,⟨⟨trivial,⟨⟨(zc zg6),trivial⟩,trivial⟩⟩,trivial⟩⟩,⟨⟨⟨trivial,⟨⟨(zc zh6),trivial⟩,trivial⟩⟩,trivial⟩,trivial⟩⟩⟩⟩⟩,⟨⟨⟨⟨⟨⟨⟨trivial,⟨⟨(zc zi9),trivial⟩,trivial⟩⟩,trivial⟩,⟨⟨trivial,⟨⟨(zc zhW),trivial⟩,trivial⟩⟩,trivial⟩⟩,⟨⟨⟨trivial,⟨⟨(zc ziX),trivial⟩,trivial⟩⟩,trivial⟩,trivial⟩⟩,⟨⟨⟨⟨⟨⟨(zc zoe),trivial⟩,trivial⟩,⟨⟨(zc zi3),trivial⟩,trivial⟩⟩,trivial⟩,⟨⟨trivial,⟨⟨(zc zhq),trivial⟩,trivial⟩⟩,trivial⟩⟩,⟨⟨⟨trivial,⟨⟨(zc zir),trivial⟩,trivial⟩⟩,trivial⟩,trivial⟩⟩⟩,⟨⟨⟨⟨⟨⟨⟨(zc zom),trivial⟩,trivial⟩,trivial⟩,trivial⟩,⟨⟨trivial,⟨⟨(zc zhG),trivial⟩,trivial⟩⟩,trivial⟩⟩,⟨⟨⟨trivial,⟨⟨(zc ziH),trivial⟩,trivial⟩⟩,trivial⟩,trivial⟩⟩,⟨⟨⟨⟨⟨⟨(zc zmg),trivial⟩,trivial⟩,trivial⟩,trivial⟩,⟨⟨trivial,⟨⟨(zc zha),trivial⟩,trivial⟩⟩,trivial⟩⟩,⟨⟨⟨trivial,⟨⟨(zc zia),trivial⟩,trivial⟩⟩,trivial⟩,trivial⟩⟩⟩⟩,⟨⟨⟨⟨trivial,⟨⟨trivial,⟨⟨(zc zhO),trivial⟩,trivial⟩⟩,trivial⟩⟩,⟨⟨⟨trivial,⟨⟨(zc ziP),trivial⟩,trivial⟩⟩,trivial⟩,trivial⟩⟩,⟨⟨⟨⟨⟨⟨(zc zoa),trivial⟩,trivial⟩,trivial⟩,trivial⟩,⟨⟨trivial,⟨⟨(zc zhi),trivial⟩,trivial⟩⟩,trivial⟩⟩,⟨⟨⟨trivial,⟨⟨(zc zii),trivial⟩,trivial⟩⟩,trivial⟩,trivial⟩⟩⟩,⟨⟨⟨⟨⟨⟨⟨(zc zoi),trivial⟩,trivial⟩,trivial⟩,trivial⟩,⟨⟨trivial,⟨⟨(zc zhy),trivial⟩,trivial⟩⟩,trivial⟩⟩,⟨⟨⟨trivial,⟨⟨(zc ziz),trivial⟩,trivial⟩⟩,trivial⟩,trivial⟩⟩,⟨⟨⟨⟨⟨⟨(zc zmc),trivial⟩,trivial⟩,trivial⟩,trivial⟩,⟨⟨trivial,⟨⟨(zc zg2),trivial⟩,trivial⟩⟩,trivial⟩⟩,⟨⟨⟨trivial,⟨⟨(zc zh2),trivial⟩,trivial⟩⟩,trivial⟩,trivial⟩⟩⟩⟩⟩⟩,⟨⟨⟨⟨⟨⟨⟨⟨trivial,⟨⟨(zc zjb),trivial⟩,trivial⟩⟩,trivial⟩,⟨⟨trivial,⟨⟨(zc zhY),trivial⟩,trivial⟩⟩,trivial⟩⟩,⟨⟨⟨trivial,⟨⟨(zc ziZ),trivial⟩,trivial⟩⟩,trivial⟩,trivial⟩⟩,⟨⟨⟨⟨⟨⟨(zc zof),trivial⟩,trivial⟩,⟨⟨(zc zi5),trivial⟩,trivial⟩⟩,trivial⟩,⟨⟨trivial,⟨⟨(zc zhs),trivial⟩,trivial⟩⟩,trivial⟩⟩,⟨⟨⟨trivial,⟨⟨(zc zit),trivial⟩,trivial⟩⟩,trivial⟩,trivial⟩⟩⟩,⟨⟨⟨⟨⟨⟨⟨(zc zon),trivial⟩,trivial⟩,trivial⟩,trivial⟩,⟨⟨trivial,⟨⟨(zc zhI),trivial⟩,trivial⟩⟩,trivial⟩⟩,⟨⟨⟨trivial,⟨⟨(zc ziJ),trivial⟩,trivial⟩⟩,trivial⟩,trivial⟩⟩,⟨⟨⟨⟨⟨⟨(zc zmh),trivial⟩,trivial⟩,trivial⟩,trivial⟩,⟨⟨trivial,⟨⟨(zc zhc),trivial⟩,trivial⟩⟩,trivial⟩⟩,⟨⟨⟨trivial,⟨⟨(zc zic),trivial⟩,trivial⟩⟩,trivial⟩,trivial⟩⟩⟩⟩,⟨⟨⟨⟨trivial,⟨⟨trivial,⟨⟨(zc zhQ),trivial⟩,trivial⟩⟩,trivial⟩⟩,⟨⟨⟨trivial,⟨⟨(zc ziR),trivial⟩,trivial⟩⟩,trivial⟩,trivial⟩⟩,⟨⟨⟨⟨⟨⟨(zc zob),trivial⟩,trivial⟩,trivial⟩,trivial⟩,⟨⟨trivial,⟨⟨(zc zhk),trivial⟩,trivial⟩⟩,trivial⟩⟩,⟨⟨⟨trivial,⟨⟨(zc zik),trivial⟩,trivial⟩⟩,trivial⟩,trivial⟩⟩⟩,⟨⟨⟨⟨⟨⟨⟨(zc zoj),trivial⟩,trivial⟩,trivial⟩,trivial⟩,⟨⟨trivial,⟨⟨(zc zhA),trivial⟩,trivial⟩⟩,trivial⟩⟩,⟨⟨⟨trivial,⟨⟨(zc ziB),trivial⟩,trivial⟩⟩,trivial⟩,trivial⟩⟩,⟨⟨⟨⟨⟨⟨(zc zmd),trivial⟩,trivial⟩,trivial⟩,trivial⟩,⟨⟨trivial,⟨⟨(zc zg4),trivial⟩,trivial⟩⟩,trivial⟩⟩,⟨⟨⟨trivial,⟨⟨(zc zh4),trivial⟩,trivial⟩⟩,trivial⟩,trivial⟩⟩⟩⟩⟩,⟨⟨⟨⟨⟨trivial,⟨⟨trivial,⟨⟨(zc zhU),trivial⟩,trivial⟩⟩,trivial⟩⟩,⟨⟨⟨trivial,⟨⟨(zc ziV),trivial⟩,trivial⟩⟩,trivial⟩,trivial⟩⟩,⟨⟨⟨⟨⟨⟨(zc zod),trivial⟩,trivial⟩,trivial⟩,trivial⟩,⟨⟨trivial,⟨⟨(zc zho),trivial⟩,trivial⟩⟩,trivial⟩⟩,⟨⟨⟨trivial,⟨⟨(zc zio),trivial⟩,trivial⟩⟩,trivial⟩,trivial⟩⟩⟩,⟨⟨⟨⟨⟨⟨⟨(zc zol),trivial⟩,trivial⟩,trivial⟩,trivial⟩,⟨⟨trivial,⟨⟨(zc zhE),trivial⟩,trivial⟩⟩,trivial⟩⟩,⟨⟨⟨trivial,⟨⟨(zc ziF),trivial⟩,trivial⟩⟩,trivial⟩,trivial⟩⟩,⟨⟨⟨⟨⟨⟨(zc zmf),trivial⟩,trivial⟩,trivial⟩,trivial⟩,⟨⟨trivial,⟨⟨(zc zg8),trivial⟩,trivial⟩⟩,trivial⟩⟩,⟨⟨⟨trivial,⟨⟨(zc zh8),trivial⟩,trivial⟩⟩,trivial⟩,trivial⟩⟩⟩⟩,⟨⟨⟨⟨trivial,⟨⟨trivial,⟨⟨(zc zhM),trivial⟩,trivial⟩⟩,trivial⟩⟩,⟨⟨⟨trivial,⟨⟨(zc ziN),trivial⟩,trivial⟩⟩,trivial⟩,trivial⟩⟩,⟨⟨⟨⟨⟨⟨(zc zn9),trivial⟩,trivial⟩,trivial⟩,trivial⟩,⟨⟨trivial,⟨⟨(zc zhg),trivial⟩,trivial⟩⟩,trivial⟩⟩,⟨⟨⟨trivial,⟨⟨(zc zig),trivial⟩,trivial⟩⟩,trivial⟩,trivial⟩⟩⟩,⟨⟨⟨⟨⟨⟨⟨(zc zoh),trivial⟩,trivial⟩,trivial⟩,trivial⟩,⟨⟨trivial,⟨⟨(zc zhw),trivial⟩,trivial⟩⟩,trivial⟩⟩,⟨⟨⟨trivial,⟨⟨(zc zix),trivial⟩,trivial⟩⟩,trivial⟩,trivial⟩⟩,⟨⟨⟨⟨⟨⟨(zc zmb),trivial⟩,trivial⟩,trivial⟩,trivial⟩,⟨⟨trivial,⟨⟨(zc zg0),trivial⟩,trivial⟩⟩,trivial⟩⟩,⟨⟨⟨trivial,⟨⟨(zc zh0),trivial⟩,trivial⟩⟩,trivial⟩,trivial⟩⟩⟩⟩⟩⟩⟩,trivial⟩,trivial⟩
def sm72:Hk:=zae zr (ssT smT72) 72 zd
def smT101:Tr (List Sm):=(.node (.node (.node (.node .nil (.node (.node (.node (.node (.node (.node (.node (.node (.node (.leaf s101_8) .nil) .nil) .nil) .nil) .nil) .nil) .nil) .nil) .nil)) (.node (.node (.node (.node (.node (.node (.node (.node (.node (.node (.leaf s101_4) .nil) .nil) .nil) .nil) .nil) .nil) .nil) .nil) .nil) .nil)) (.node (.node (.node (.node (.node (.node (.node (.node (.node (.node (.node (.leaf s101_2) .nil) .nil) .nil) .nil) .nil) .nil) .nil) .nil) .nil) .nil) .nil)) (.node (.node (.node (.node (.node (.node (.node (.node (.node (.node (.node (.node (.leaf s101_1) .nil) .nil) .nil) .nil) .nil) .nil) .nil) .nil) (.node (.node (.node (.node (.node (.node (.node (.node (.leaf zni) .nil) .nil) .nil) .nil) .nil) .nil) .nil) .nil)) (.node (.node (.node (.node (.node .nil (.node (.node (.node (.node (.leaf zkS) .nil) .nil) .nil) .nil)) .nil) .nil) .nil) .nil)) .nil) .nil))
theorem zn3:TrP (zar zdN 101 zd) smT101:=⟨⟨⟨⟨trivial,⟨⟨⟨⟨⟨⟨⟨⟨⟨(zc zot),trivial⟩,trivial⟩,trivial⟩,trivial⟩,trivial⟩,trivial⟩,trivial⟩,trivial⟩,trivial⟩⟩,⟨⟨⟨⟨⟨⟨⟨⟨⟨⟨(zc zou),trivial⟩,trivial⟩,trivial⟩,trivial⟩,trivial⟩,trivial⟩,trivial⟩,trivial⟩,trivial⟩,trivial⟩⟩,⟨⟨⟨⟨⟨⟨⟨⟨⟨⟨⟨(zc zov),trivial⟩,trivial⟩,trivial⟩,trivial⟩,trivial⟩,trivial⟩,trivial⟩,trivial⟩,trivial⟩,trivial⟩,trivial⟩⟩,⟨⟨⟨⟨⟨⟨⟨⟨⟨⟨⟨⟨(zc zow),trivial⟩,trivial⟩,trivial⟩,trivial⟩,trivial⟩,trivial⟩,trivial⟩,trivial⟩,⟨⟨⟨⟨⟨⟨⟨⟨(zc zmj),trivial⟩,trivial⟩,trivial⟩,trivial⟩,trivial⟩,trivial⟩,trivial⟩,trivial⟩⟩,⟨⟨⟨⟨⟨trivial,⟨⟨⟨⟨(zc zkR),trivial⟩,trivial⟩,trivial⟩,trivial⟩⟩,trivial⟩,trivial⟩,trivial⟩,trivial⟩⟩,trivial⟩,trivial⟩⟩
def zfp:Hk:=zae zdN (ssT smT101) 101 zd
def smT243:Tr (List Sm):=(.node (.node (.node (.node .nil (.node (.node (.node (.node (.node .nil (.node (.node .nil (.node (.node (.leaf zfu) .nil) .nil)) .nil)) .nil) .nil) .nil) .nil)) .nil) .nil) .nil)
theorem zn2:TrP (zar mc243 243 zd) smT243:=⟨⟨⟨⟨trivial,⟨⟨⟨⟨⟨trivial,⟨⟨trivial,⟨⟨(zc zga),trivial⟩,trivial⟩⟩,trivial⟩⟩,trivial⟩,trivial⟩,trivial⟩,trivial⟩⟩,trivial⟩,trivial⟩,trivial⟩
def zey:Hk:=zae mc243 (ssT smT243) 243 zd
def smT245:Tr (List Sm):=(.node (.node (.node (.node (.node (.node (.node (.node (.node .nil (.node (.node .nil (.node (.node (.leaf zft) .nil) .nil)) .nil)) .nil) .nil) .nil) .nil) .nil) .nil) .nil) .nil)
theorem zn1:TrP (zar mc245 245 zd) smT245:=⟨⟨⟨⟨⟨⟨⟨⟨⟨trivial,⟨⟨trivial,⟨⟨(zc zf9),trivial⟩,trivial⟩⟩,trivial⟩⟩,trivial⟩,trivial⟩,trivial⟩,trivial⟩,trivial⟩,trivial⟩,trivial⟩,trivial⟩
def zdM:Hk:=zae mc245 (ssT smT245) 245 zd
def smT291:Tr (List Sm):=(.node (.node (.node (.node (.node (.node (.node (.node (.node .nil (.node (.node .nil (.node (.node (.leaf zfs) .nil) .nil)) .nil)) .nil) .nil) .nil) .nil) .nil) .nil) .nil) .nil)
theorem zn0:TrP (zar mc291 291 zd) smT291:=⟨⟨⟨⟨⟨⟨⟨⟨⟨trivial,⟨⟨trivial,⟨⟨(zc zf8),trivial⟩,trivial⟩⟩,trivial⟩⟩,trivial⟩,trivial⟩,trivial⟩,trivial⟩,trivial⟩,trivial⟩,trivial⟩,trivial⟩
def zcE:Hk:=zae mc291 (ssT smT291) 291 zd
variable {E:Env}
def LenB (E:Env):Prop:=ze E Tryz.prog (fun G l h fa k=>bc (Nat.beq G 197) (lenX l h fa k) 1)
def AnyB (E:Env):Prop:=ze E Tryz.prog (fun G l h fa k=>bc (Nat.beq G 239) (anyX l h fa k) 1)
def SamB (E:Env):Prop:=ze E Tryz.prog (fun G l h fa k=>bc (Nat.beq G 22) (samT l h fa k) 1)
structure LenOk (E:Env):Prop where
 len:LenB E
 any:AnyB E
 sam:SamB E
def ju (E:Env):Prop:=∀ E':Env,(∀ q,q≠7->E'.s q=E.s q)->LenOk E'
theorem ju.one (h:ju E):LenOk E:=h E (fun _ _=>rfl)
theorem yz {C:Nat->Option Hk} {a:Nat} {s:Hk} (hs:ze E Tryz.prog (fun G l h fa k=>bc (Nat.beq G a) (s l h fa k) 1))
  (hC:∀ F t,C F=some t->ze E Tryz.prog (fun G l h fa k=>bc (Nat.beq G F) (t l h fa k) 1)):∀ F t,bc (Nat.beq F a) (some s) (C F)=some t->ze E Tryz.prog (fun G l h fa k=>bc (Nat.beq G F) (t l h fa k) 1):=by
 intro F t h
 cases e:Nat.beq F a with
 | true=>
  rw[e]at h
  have h:some s=some t:=h
  cases h
  have e:F=a:=by simpa using e
  subst e
  exact hs
 | false=>rw[e]at h;exact hC F t h
theorem zrg:∀ F t,(none:Option Hk)=some t->ze E Tryz.prog (fun G l h fa k=>bc (Nat.beq G F) (t l h fa k) 1):=fun F t h=>by cases h
theorem hk0_ok (hlen:LenOk E):∀ F t,hk0 F=some t->ze E Tryz.prog (fun G l h fa k=>bc (Nat.beq G F) (t l h fa k) 1):=yz (C:=fun F=>(bc (Nat.beq F 239) (some anyX) (bc (Nat.beq F 22) (some samT) none))) (hlen.len) (yz (C:=fun F=>(bc (Nat.beq F 22) (some samT) none)) (hlen.any) (yz (C:=fun F=>none) (hlen.sam) (zrg)))
theorem cx0_ok (hlen:LenOk E):CxOk E Tryz.prog (zN Tryz.prog) cx0:=⟨zq,yC,fun F i h=>zcq h,hk0_ok hlen⟩
theorem jX (hlen:LenOk E):ze E Tryz.prog zd:=zaj (cx0_ok hlen) 100
theorem hk0_okA (hlen:ju E):∀ F t,hk0 F=some t->ze E Tryz.prog (fun G l h fa k=>bc (Nat.beq G F) (t l h fa k) 1):=hk0_ok hlen.one
def hkH0 (F:Nat):Option Hk:=(bc (Nat.beq F 15) (some sm15) (bc (Nat.beq F 37) (some sm37) (bc (Nat.beq F 48) (some sm48) (bc (Nat.beq F 52) (some sm52) (bc (Nat.beq F 72) (some sm72) (bc (Nat.beq F 101) (some zfp) (bc (Nat.beq F 243) (some zey) (bc (Nat.beq F 245) (some zdM) (bc (Nat.beq F 291) (some zcE) (hk0 F))))))))))
theorem hkH0_ok (hlen:ju E):∀ F t,hkH0 F=some t->ze E Tryz.prog (fun G l h fa k=>bc (Nat.beq G F) (t l h fa k) 1):=yz (C:=fun F=>(bc (Nat.beq F 37) (some sm37) (bc (Nat.beq F 48) (some sm48) (bc (Nat.beq F 52) (some sm52) (bc (Nat.beq F 72) (some sm72) (bc (Nat.beq F 101) (some zfp) (bc (Nat.beq F 243) (some zey) (bc (Nat.beq F 245) (some zdM) (bc (Nat.beq F 291) (some zcE) (hk0 F)))))))))) (zcC (fun E' h=>jX (hlen E' h)) zpz) (yz (C:=fun F=>(bc (Nat.beq F 48) (some sm48) (bc (Nat.beq F 52) (some sm52) (bc (Nat.beq F 72) (some sm72) (bc (Nat.beq F 101) (some zfp) (bc (Nat.beq F 243) (some zey) (bc (Nat.beq F 245) (some zdM) (bc (Nat.beq F 291) (some zcE) (hk0 F))))))))) (zcC (fun E' h=>jX (hlen E' h)) zpv) (yz (C:=fun F=>(bc (Nat.beq F 52) (some sm52) (bc (Nat.beq F 72) (some sm72) (bc (Nat.beq F 101) (some zfp) (bc (Nat.beq F 243) (some zey) (bc (Nat.beq F 245) (some zdM) (bc (Nat.beq F 291) (some zcE) (hk0 F)))))))) (zcC (fun E' h=>jX (hlen E' h)) zpu) (yz (C:=fun F=>(bc (Nat.beq F 72) (some sm72) (bc (Nat.beq F 101) (some zfp) (bc (Nat.beq F 243) (some zey) (bc (Nat.beq F 245) (some zdM) (bc (Nat.beq F 291) (some zcE) (hk0 F))))))) (zcC (fun E' h=>jX (hlen E' h)) zpt) (yz (C:=fun F=>(bc (Nat.beq F 101) (some zfp) (bc (Nat.beq F 243) (some zey) (bc (Nat.beq F 245) (some zdM) (bc (Nat.beq F 291) (some zcE) (hk0 F)))))) (zcC (fun E' h=>jX (hlen E' h)) zps) (yz (C:=fun F=>(bc (Nat.beq F 243) (some zey) (bc (Nat.beq F 245) (some zdM) (bc (Nat.beq F 291) (some zcE) (hk0 F))))) (zcC (fun E' h=>jX (hlen E' h)) zn3) (yz (C:=fun F=>(bc (Nat.beq F 245) (some zdM) (bc (Nat.beq F 291) (some zcE) (hk0 F)))) (zcC (fun E' h=>jX (hlen E' h)) zn2) (yz (C:=fun F=>(bc (Nat.beq F 291) (some zcE) (hk0 F))) (zcC (fun E' h=>jX (hlen E' h)) zn1) (yz (C:=fun F=>(hk0 F)) (zcC (fun E' h=>jX (hlen E' h)) zn0) (hk0_okA hlen)))))))))
def hkG (F:Nat):Option Hk:=(hkH0 F)
theorem hkG_ok (hlen:ju E):∀ F t,hkG F=some t->ze E Tryz.prog (fun G l h fa k=>bc (Nat.beq G F) (t l h fa k) 1):=hkH0_ok hlen
def cxG:Cx:=⟨fnX,hkG,20000⟩
def callG:zu:=zdV cxG 100
theorem cxG_ok (hlen:ju E):CxOk E Tryz.prog (zN Tryz.prog) cxG:=⟨zq,yC,fun F i h=>zcq h,hkG_ok hlen⟩
theorem zlH (hlen:ju E):ze E Tryz.prog callG:=zaj (cxG_ok hlen) 100
def ct0_154:Hk:=cntT xn154.body xn154.res callG 154 20000
def znP:Hk:=cntT xn164.body xn164.res callG 164 20000
def hkN0 (F:Nat):Option Hk:=(bc (Nat.beq F 154) (some ct0_154) (bc (Nat.beq F 164) (some znP) (hkG F)))
theorem znH (hlen:ju E):∀ F t,hkN0 F=some t->ze E Tryz.prog (fun G l h fa k=>bc (Nat.beq G F) (t l h fa k) 1):=yz (C:=fun F=>(bc (Nat.beq F 164) (some znP) (hkG F))) (zmR zq yC (zlH hlen) Tryz.func154 Tryz.call154 cn154 (drB wn154)) (yz (C:=fun F=>(hkG F)) (zmR zq yC (zlH hlen) Tryz.func164 Tryz.call164 cn164 (drB wn164)) (hkG_ok hlen))
def cxN0:Cx:=⟨fnX,hkN0,20000⟩
def callN0:zu:=zdV cxN0 100
theorem cxN0_ok (hlen:ju E):CxOk E Tryz.prog (zN Tryz.prog) cxN0:=⟨zq,yC,fun F i h=>zcq h,znH hlen⟩
theorem zoX (hlen:ju E):ze E Tryz.prog callN0:=zaj (cxN0_ok hlen) 100
def ct1_82:Hk:=cntT xn82.body xn82.res callN0 82 20000
def zgx (F:Nat):Option Hk:=(bc (Nat.beq F 82) (some ct1_82) (hkN0 F))
theorem znG (hlen:ju E):∀ F t,zgx F=some t->ze E Tryz.prog (fun G l h fa k=>bc (Nat.beq G F) (t l h fa k) 1):=yz (C:=fun F=>(hkN0 F)) (zmR zq yC (zoX hlen) Tryz.func82 Tryz.call82 cn82 (drB wn82)) (znH hlen)
def cxN1:Cx:=⟨fnX,zgx,20000⟩
def zaw:zu:=zdV cxN1 100
theorem cxN1_ok (hlen:ju E):CxOk E Tryz.prog (zN Tryz.prog) cxN1:=⟨zq,yC,fun F i h=>zcq h,znG hlen⟩
theorem y8 (hlen:ju E):ze E Tryz.prog zaw:=zaj (cxN1_ok hlen) 100
def zl9:zc8:=subT yc94 rs94 zaw 94 20000 zbF
def zl8:zc8:=subT yc95 rs95 zaw 95 20000 zbF
def zgU (F:Nat):Option zc8:=(bc (Nat.beq F 94) (some zl9) (bc (Nat.beq F 95) (some zl8) none))
theorem zew (hlen:ju E) {s:LS} {yid:Ev.P} {hand:zd1} (hh:zcc E Tryz.prog (zA E s yid) yid hand):SubA E Tryz.prog (zA E s yid) yid hand zgU:=by
 intro G t h
 unfold zgU at h
 cases e94':Nat.beq G 94 with
 | true=>
  rw[e94']at h
  have h:some zl9=some t:=h
  cases h
  have e:G=94:=by simpa using e94'
  subst e
  refine⟨Tryz.call94,fun l hp fa k hk hfa=>?_⟩
  have hy:=y94
  split at hy
  ·rename_i c hc
   unfold zl9 at hk
   rw[<- hy]at hk
   exact zf5 zq yC (y8 hlen) Tryz.func94 hc e94 s hand yid l hp fa k hh zaJ hk hfa
  ·rename_i hc
   exact absurd hc (by have : Tryz.f94.body.isSome = true := by kernel_rfl
                       intro hn;rw[hn]at this;cases this)
 | false=>
 rw[e94']at h
 cases e95':Nat.beq G 95 with
 | true=>
  rw[e95']at h
  have h:some zl8=some t:=h
  cases h
  have e:G=95:=by simpa using e95'
  subst e
  refine⟨Tryz.call95,fun l hp fa k hk hfa=>?_⟩
  have hy:=y95
  split at hy
  ·rename_i c hc
   unfold zl8 at hk
   rw[<- hy]at hk
   exact zf5 zq yC (y8 hlen) Tryz.func95 hc e95 s hand yid l hp fa k hh zaJ hk hfa
  ·rename_i hc
   exact absurd hc (by have : Tryz.f95.body.isSome = true := by kernel_rfl
                       intro hn;rw[hn]at this;cases this)
 | false=>
 rw[e95']at h
 cases h
def zmD:zc9:=itrT yc91 zaw 91 20000 zgU
def zgu:zc9:=itrT yc232 zaw 232 20000 zgU
def zgt:zc9:=itrT yc241 zaw 241 20000 zgU
def zdP (F:Nat):Option zc9:=(bc (Nat.beq F 91) (some zmD) (bc (Nat.beq F 232) (some zgu) (bc (Nat.beq F 241) (some zgt) none)))
theorem za7 (hlen:ju E):znW E Tryz.prog zdP:=by
 intro G it h
 unfold zdP at h
 cases e91':Nat.beq G 91 with
 | true=>
  rw[e91']at h
  have h:some zmD=some it:=h
  cases h
  have e:G=91:=by simpa using e91'
  subst e
  refine⟨Tryz.call91,fun s hand yid l hp fa k hh hk hfa=>?_⟩
  have hy:=y91
  split at hy
  ·rename_i c hc
   unfold zmD at hk
   rw[<- hy]at hk
   exact zdr zq yC (y8 hlen) Tryz.func91 hc e91 s hand yid l hp fa k hh (zew hlen hh) hk hfa
  ·rename_i hc
   exact absurd hc (by have : Tryz.f91.body.isSome = true := by kernel_rfl
                       intro hn;rw[hn]at this;cases this)
 | false=>
 rw[e91']at h
 cases e232':Nat.beq G 232 with
 | true=>
  rw[e232']at h
  have h:some zgu=some it:=h
  cases h
  have e:G=232:=by simpa using e232'
  subst e
  refine⟨Tryz.call232,fun s hand yid l hp fa k hh hk hfa=>?_⟩
  have hy:=y232
  split at hy
  ·rename_i c hc
   unfold zgu at hk
   rw[<- hy]at hk
   exact zdr zq yC (y8 hlen) Tryz.func232 hc e232 s hand yid l hp fa k hh (zew hlen hh) hk hfa
  ·rename_i hc
   exact absurd hc (by have : Tryz.f232.body.isSome = true := by kernel_rfl
                       intro hn;rw[hn]at this;cases this)
 | false=>
 rw[e232']at h
 cases e241':Nat.beq G 241 with
 | true=>
  rw[e241']at h
  have h:some zgt=some it:=h
  cases h
  have e:G=241:=by simpa using e241'
  subst e
  refine⟨Tryz.call241,fun s hand yid l hp fa k hh hk hfa=>?_⟩
  have hy:=y241
  split at hy
  ·rename_i c hc
   unfold zgt at hk
   rw[<- hy]at hk
   exact zdr zq yC (y8 hlen) Tryz.func241 hc e241 s hand yid l hp fa k hh (zew hlen hh) hk hfa
  ·rename_i hc
   exact absurd hc (by have : Tryz.f241.body.isSome = true := by kernel_rfl
                       intro hn;rw[hn]at this;cases this)
 | false=>
 rw[e241']at h
 cases h
def zmm:Hk:=rfnT yc24 rs24 zaw 24 20000 zdP
theorem zoB (hlen:ju E):ze E Tryz.prog (fun G l h fa k=>bc (Nat.beq G 24) (zmm l h fa k) 1):=by
 have hy:=y24
 split at hy
 ·rename_i c hc
  unfold zmm
  rw[<- hy]
  exact zch zq yC (y8 hlen) (za7 hlen) Tryz.func24 Tryz.call24 hc e24
 ·rename_i hc
  exact absurd hc (by have : Tryz.f24.body.isSome = true := by kernel_rfl
                      intro hn;rw[hn]at this;cases this)
def zgc:Hk:=rfnT yc71 rs71 zaw 71 20000 zdP
theorem zoA (hlen:ju E):ze E Tryz.prog (fun G l h fa k=>bc (Nat.beq G 71) (zgc l h fa k) 1):=by
 have hy:=y71
 split at hy
 ·rename_i c hc
  unfold zgc
  rw[<- hy]
  exact zch zq yC (y8 hlen) (za7 hlen) Tryz.func71 Tryz.call71 hc e71
 ·rename_i hc
  exact absurd hc (by have : Tryz.f71.body.isSome = true := by kernel_rfl
                      intro hn;rw[hn]at this;cases this)
def zeB:Hk:=rfnT yc80 rs80 zaw 80 20000 zdP
theorem zoz (hlen:ju E):ze E Tryz.prog (fun G l h fa k=>bc (Nat.beq G 80) (zeB l h fa k) 1):=by
 have hy:=y80
 split at hy
 ·rename_i c hc
  unfold zeB
  rw[<- hy]
  exact zch zq yC (y8 hlen) (za7 hlen) Tryz.func80 Tryz.call80 hc e80
 ·rename_i hc
  exact absurd hc (by have : Tryz.f80.body.isSome = true := by kernel_rfl
                      intro hn;rw[hn]at this;cases this)
def zdi:Hk:=rfnT yc84 rs84 zaw 84 20000 zdP
theorem zoy (hlen:ju E):ze E Tryz.prog (fun G l h fa k=>bc (Nat.beq G 84) (zdi l h fa k) 1):=by
 have hy:=y84
 split at hy
 ·rename_i c hc
  unfold zdi
  rw[<- hy]
  exact zch zq yC (y8 hlen) (za7 hlen) Tryz.func84 Tryz.call84 hc e84
 ·rename_i hc
  exact absurd hc (by have : Tryz.f84.body.isSome = true := by kernel_rfl
                      intro hn;rw[hn]at this;cases this)
def zbg:Hk:=rfnT yc170 rs170 zaw 170 20000 zdP
theorem zmn (hlen:ju E):ze E Tryz.prog (fun G l h fa k=>bc (Nat.beq G 170) (zbg l h fa k) 1):=by
 have hy:=y170
 split at hy
 ·rename_i c hc
  unfold zbg
  rw[<- hy]
  exact zch zq yC (y8 hlen) (za7 hlen) Tryz.func170 Tryz.call170 hc e170
 ·rename_i hc
  exact absurd hc (by have : Tryz.f170.body.isSome = true := by kernel_rfl
                      intro hn;rw[hn]at this;cases this)
def zaU:Hk:=rfnT yc294 rs294 zaw 294 20000 zdP
theorem zml (hlen:ju E):ze E Tryz.prog (fun G l h fa k=>bc (Nat.beq G 294) (zaU l h fa k) 1):=by
 have hy:=y294
 split at hy
 ·rename_i c hc
  unfold zaU
  rw[<- hy]
  exact zch zq yC (y8 hlen) (za7 hlen) Tryz.func294 Tryz.call294 hc e294
 ·rename_i hc
  exact absurd hc (by have : Tryz.f294.body.isSome = true := by kernel_rfl
                      intro hn;rw[hn]at this;cases this)
def hkR0 (F:Nat):Option Hk:=(bc (Nat.beq F 24) (some zmm) (bc (Nat.beq F 71) (some zgc) (bc (Nat.beq F 80) (some zeB) (bc (Nat.beq F 84) (some zdi) (bc (Nat.beq F 170) (some zbg) (bc (Nat.beq F 294) (some zaU) (zgx F)))))))
theorem znF (hlen:ju E):∀ F t,hkR0 F=some t->ze E Tryz.prog (fun G l h fa k=>bc (Nat.beq G F) (t l h fa k) 1):=yz (C:=fun F=>(bc (Nat.beq F 71) (some zgc) (bc (Nat.beq F 80) (some zeB) (bc (Nat.beq F 84) (some zdi) (bc (Nat.beq F 170) (some zbg) (bc (Nat.beq F 294) (some zaU) (zgx F))))))) (zoB hlen) (yz (C:=fun F=>(bc (Nat.beq F 80) (some zeB) (bc (Nat.beq F 84) (some zdi) (bc (Nat.beq F 170) (some zbg) (bc (Nat.beq F 294) (some zaU) (zgx F)))))) (zoA hlen) (yz (C:=fun F=>(bc (Nat.beq F 84) (some zdi) (bc (Nat.beq F 170) (some zbg) (bc (Nat.beq F 294) (some zaU) (zgx F))))) (zoz hlen) (yz (C:=fun F=>(bc (Nat.beq F 170) (some zbg) (bc (Nat.beq F 294) (some zaU) (zgx F)))) (zoy hlen) (yz (C:=fun F=>(bc (Nat.beq F 294) (some zaU) (zgx F))) (zmn hlen) (yz (C:=fun F=>(zgx F)) (zml hlen) (znG hlen))))))
def cxR0:Cx:=⟨fnX,hkR0,20000⟩
def zcu:zu:=zdV cxR0 100
theorem cxR0_ok (hlen:ju E):CxOk E Tryz.prog (zN Tryz.prog) cxR0:=⟨zq,yC,fun F i h=>zcq h,znF hlen⟩
theorem zaF (hlen:ju E):ze E Tryz.prog zcu:=zaj (cxR0_ok hlen) 100
def zl7:zc8:=subT yc94 rs94 zcu 94 20000 zbF
def zl6:zc8:=subT yc95 rs95 zcu 95 20000 zbF
def zgT (F:Nat):Option zc8:=(bc (Nat.beq F 94) (some zl7) (bc (Nat.beq F 95) (some zl6) none))
theorem zev (hlen:ju E) {s:LS} {yid:Ev.P} {hand:zd1} (hh:zcc E Tryz.prog (zA E s yid) yid hand):SubA E Tryz.prog (zA E s yid) yid hand zgT:=by
 intro G t h
 unfold zgT at h
 cases e94':Nat.beq G 94 with
 | true=>
  rw[e94']at h
  have h:some zl7=some t:=h
  cases h
  have e:G=94:=by simpa using e94'
  subst e
  refine⟨Tryz.call94,fun l hp fa k hk hfa=>?_⟩
  have hy:=y94
  split at hy
  ·rename_i c hc
   unfold zl7 at hk
   rw[<- hy]at hk
   exact zf5 zq yC (zaF hlen) Tryz.func94 hc e94 s hand yid l hp fa k hh zaJ hk hfa
  ·rename_i hc
   exact absurd hc (by have : Tryz.f94.body.isSome = true := by kernel_rfl
                       intro hn;rw[hn]at this;cases this)
 | false=>
 rw[e94']at h
 cases e95':Nat.beq G 95 with
 | true=>
  rw[e95']at h
  have h:some zl6=some t:=h
  cases h
  have e:G=95:=by simpa using e95'
  subst e
  refine⟨Tryz.call95,fun l hp fa k hk hfa=>?_⟩
  have hy:=y95
  split at hy
  ·rename_i c hc
   unfold zl6 at hk
   rw[<- hy]at hk
   exact zf5 zq yC (zaF hlen) Tryz.func95 hc e95 s hand yid l hp fa k hh zaJ hk hfa
  ·rename_i hc
   exact absurd hc (by have : Tryz.f95.body.isSome = true := by kernel_rfl
                       intro hn;rw[hn]at this;cases this)
 | false=>
 rw[e95']at h
 cases h
def zmC:zc9:=itrT yc91 zcu 91 20000 zgT
def zgs:zc9:=itrT yc232 zcu 232 20000 zgT
def zgr:zc9:=itrT yc241 zcu 241 20000 zgT
def itrX1 (F:Nat):Option zc9:=(bc (Nat.beq F 91) (some zmC) (bc (Nat.beq F 232) (some zgs) (bc (Nat.beq F 241) (some zgr) none)))
theorem zq6 (hlen:ju E):znW E Tryz.prog itrX1:=by
 intro G it h
 unfold itrX1 at h
 cases e91':Nat.beq G 91 with
 | true=>
  rw[e91']at h
  have h:some zmC=some it:=h
  cases h
  have e:G=91:=by simpa using e91'
  subst e
  refine⟨Tryz.call91,fun s hand yid l hp fa k hh hk hfa=>?_⟩
  have hy:=y91
  split at hy
  ·rename_i c hc
   unfold zmC at hk
   rw[<- hy]at hk
   exact zdr zq yC (zaF hlen) Tryz.func91 hc e91 s hand yid l hp fa k hh (zev hlen hh) hk hfa
  ·rename_i hc
   exact absurd hc (by have : Tryz.f91.body.isSome = true := by kernel_rfl
                       intro hn;rw[hn]at this;cases this)
 | false=>
 rw[e91']at h
 cases e232':Nat.beq G 232 with
 | true=>
  rw[e232']at h
  have h:some zgs=some it:=h
  cases h
  have e:G=232:=by simpa using e232'
  subst e
  refine⟨Tryz.call232,fun s hand yid l hp fa k hh hk hfa=>?_⟩
  have hy:=y232
  split at hy
  ·rename_i c hc
   unfold zgs at hk
   rw[<- hy]at hk
   exact zdr zq yC (zaF hlen) Tryz.func232 hc e232 s hand yid l hp fa k hh (zev hlen hh) hk hfa
  ·rename_i hc
   exact absurd hc (by have : Tryz.f232.body.isSome = true := by kernel_rfl
                       intro hn;rw[hn]at this;cases this)
 | false=>
 rw[e232']at h
 cases e241':Nat.beq G 241 with
 | true=>
  rw[e241']at h
  have h:some zgr=some it:=h
  cases h
  have e:G=241:=by simpa using e241'
  subst e
  refine⟨Tryz.call241,fun s hand yid l hp fa k hh hk hfa=>?_⟩
  have hy:=y241
  split at hy
  ·rename_i c hc
   unfold zgr at hk
   rw[<- hy]at hk
   exact zdr zq yC (zaF hlen) Tryz.func241 hc e241 s hand yid l hp fa k hh (zev hlen hh) hk hfa
  ·rename_i hc
   exact absurd hc (by have : Tryz.f241.body.isSome = true := by kernel_rfl
                       intro hn;rw[hn]at this;cases this)
 | false=>
 rw[e241']at h
 cases h
def zmk:Hk:=rfnT yc83 rs83 zcu 83 20000 itrX1
theorem zox (hlen:ju E):ze E Tryz.prog (fun G l h fa k=>bc (Nat.beq G 83) (zmk l h fa k) 1):=by
 have hy:=y83
 split at hy
 ·rename_i c hc
  unfold zmk
  rw[<- hy]
  exact zch zq yC (zaF hlen) (zq6 hlen) Tryz.func83 Tryz.call83 hc e83
 ·rename_i hc
  exact absurd hc (by have : Tryz.f83.body.isSome = true := by kernel_rfl
                      intro hn;rw[hn]at this;cases this)
def hkR1 (F:Nat):Option Hk:=(bc (Nat.beq F 83) (some zmk) (hkR0 F))
theorem znE (hlen:ju E):∀ F t,hkR1 F=some t->ze E Tryz.prog (fun G l h fa k=>bc (Nat.beq G F) (t l h fa k) 1):=yz (C:=fun F=>(hkR0 F)) (zox hlen) (znF hlen)
def cxR1:Cx:=⟨fnX,hkR1,20000⟩
def zmV:zu:=zdV cxR1 100
theorem znO (hlen:ju E):CxOk E Tryz.prog (zN Tryz.prog) cxR1:=⟨zq,yC,fun F i h=>zcq h,znE hlen⟩
theorem zfT (hlen:ju E):ze E Tryz.prog zmV:=zaj (znO hlen) 100
def df13:Hk:=dfnT x13.body x13.res zmV (dcallT cxR1 zmV) 13 20000
def hk1 (F:Nat):Option Hk:=(bc (Nat.beq F 13) (some df13) (hkR1 F))
theorem hk1_ok (hlen:ju E):∀ F t,hk1 F=some t->ze E Tryz.prog (fun G l h fa k=>bc (Nat.beq G F) (t l h fa k) 1):=yz (C:=fun F=>(hkR1 F)) (dfn_ok zq yC (zfT hlen) (zoS (znO hlen) (zfT hlen)) Tryz.func13 Tryz.call13 cx13 (drB wx13)) (znE hlen)
def cx1:Cx:=⟨fnX,hk1,20000⟩
def zbO:zu:=zdV cx1 100
theorem zmP (hlen:ju E):CxOk E Tryz.prog (zN Tryz.prog) cx1:=⟨zq,yC,fun F i h=>zcq h,hk1_ok hlen⟩
theorem zrW (hlen:ju E):ze E Tryz.prog zbO:=zaj (zmP hlen) 100
end Go.Ev.X
end
