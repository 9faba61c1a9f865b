import Derived.Test.YtckgidiokbofiaaGreatDoorSC
import Derived.Test.YtckgidiokbofiaaGreatDoorSS0
import Derived.Test.YtckgidiokbofiaaGreatDoorSS1
import Derived.Test.YtckgidiokbofiaaGreatDoorSS2
import Derived.Test.YtckgidiokbofiaaGreatDoorSS3
set_option linter.unusedSimpArgs false
set_option linter.unusedVariables false
set_option maxRecDepth 100000
noncomputable section
namespace Go.Ev.X
open Go Go.Ev Go.Proofs
def smT24:Tr (List Sm):=(.node (.node (.node (.node (.node (.node (.node (.node (.node (.node (.node .nil (.node (.node (.leaf znl) .nil) .nil)) .nil) .nil) .nil) (.node (.node (.node (.node .nil (.node (.node (.leaf znj) .nil) .nil)) .nil) .nil) .nil)) .nil) .nil) .nil) .nil) .nil) .nil)
theorem zuh:TrP (za3 mc24 24 ze) smT24:=⟨⟨⟨⟨⟨⟨⟨⟨⟨⟨⟨trivial,⟨⟨(zd znk),trivial⟩,trivial⟩⟩,trivial⟩,trivial⟩,trivial⟩,⟨⟨⟨⟨trivial,⟨⟨(zd zni),trivial⟩,trivial⟩⟩,trivial⟩,trivial⟩,trivial⟩⟩,trivial⟩,trivial⟩,trivial⟩,trivial⟩,trivial⟩,trivial⟩
def sm24:Hk:=zaQ mc24 (ssT smT24) 24 ze
def smT34:Tr (List Sm):=(.node (.node (.node (.node (.node .nil (.node (.node (.node (.node .nil (.node (.node .nil (.node (.node (.leaf znh) .nil) .nil)) .nil)) .nil) .nil) .nil)) (.node (.node (.node (.node (.node (.node (.node (.node (.node (.leaf s34_8) .nil) .nil) .nil) .nil) .nil) .nil) .nil) .nil) .nil)) (.node (.node (.node (.node (.node (.node (.node (.node (.node (.node (.leaf s34_4) .nil) .nil) .nil) .nil) .nil) .nil) .nil) .nil) (.node (.node (.node (.node .nil (.node (.node .nil (.node (.node (.leaf zm9) .nil) .nil)) .nil)) .nil) .nil) .nil)) .nil)) (.node (.node (.node (.node (.node (.node (.node (.node (.node (.node (.node (.leaf s34_2) .nil) .nil) .nil) .nil) .nil) .nil) .nil) .nil) (.node (.node (.node (.node .nil (.node (.node .nil (.node (.node (.leaf znd) .nil) .nil)) .nil)) .nil) .nil) .nil)) .nil) (.node (.node .nil (.node (.node (.node (.node .nil (.node (.node .nil (.node (.node (.leaf zm5) .nil) .nil)) .nil)) .nil) .nil) .nil)) .nil))) (.node (.node (.node (.node (.node (.node (.node (.node (.node (.node (.node (.node (.leaf s34_1) .nil) .nil) .nil) .nil) .nil) .nil) .nil) .nil) (.node (.node (.node (.node (.node (.node (.node (.node (.leaf s34_17) .nil) .nil) .nil) .nil) (.node (.node .nil (.node (.node (.leaf znf) .nil) .nil)) .nil)) .nil) .nil) .nil)) (.node (.node (.node (.node (.node .nil (.node (.node (.node (.node (.leaf zp0) .nil) .nil) .nil) .nil)) .nil) .nil) .nil) .nil)) (.node (.node .nil (.node (.node (.node (.node .nil (.node (.node .nil (.node (.node (.leaf zm7) .nil) .nil)) .nil)) .nil) .nil) .nil)) .nil)) (.node (.node (.node .nil (.node (.node (.node (.node .nil (.node (.node .nil (.node (.node (.leaf znb) .nil) .nil)) .nil)) .nil) .nil) .nil)) .nil) (.node (.node .nil (.node (.node (.node (.node .nil (.node (.node .nil (.node (.node (.leaf zm3) .nil) .nil)) .nil)) .nil) .nil) .nil)) .nil))))
theorem zuf:TrP (za3 zcU 34 ze) smT34:=⟨⟨⟨⟨⟨trivial,⟨⟨⟨⟨trivial,⟨⟨trivial,⟨⟨(zd zng),trivial⟩,trivial⟩⟩,trivial⟩⟩,trivial⟩,trivial⟩,trivial⟩⟩,⟨⟨⟨⟨⟨⟨⟨⟨⟨(zd zuM),trivial⟩,trivial⟩,trivial⟩,trivial⟩,trivial⟩,trivial⟩,trivial⟩,trivial⟩,trivial⟩⟩,⟨⟨⟨⟨⟨⟨⟨⟨⟨⟨(zd zuN),trivial⟩,trivial⟩,trivial⟩,trivial⟩,trivial⟩,trivial⟩,trivial⟩,trivial⟩,⟨⟨⟨⟨trivial,⟨⟨trivial,⟨⟨(zd zm8),trivial⟩,trivial⟩⟩,trivial⟩⟩,trivial⟩,trivial⟩,trivial⟩⟩,trivial⟩⟩,⟨⟨⟨⟨⟨⟨⟨⟨⟨⟨⟨(zd zuO),trivial⟩,trivial⟩,trivial⟩,trivial⟩,trivial⟩,trivial⟩,trivial⟩,trivial⟩,⟨⟨⟨⟨trivial,⟨⟨trivial,⟨⟨(zd znc),trivial⟩,trivial⟩⟩,trivial⟩⟩,trivial⟩,trivial⟩,trivial⟩⟩,trivial⟩,⟨⟨trivial,⟨⟨⟨⟨trivial,⟨⟨trivial,⟨⟨(zd zm4),trivial⟩,trivial⟩⟩,trivial⟩⟩,trivial⟩,trivial⟩,trivial⟩⟩,trivial⟩⟩⟩,⟨⟨⟨⟨⟨⟨⟨⟨⟨⟨⟨⟨(zd zuP),trivial⟩,trivial⟩,trivial⟩,trivial⟩,trivial⟩,trivial⟩,trivial⟩,trivial⟩,⟨⟨⟨⟨⟨⟨⟨⟨(zd zrl),trivial⟩,trivial⟩,trivial⟩,trivial⟩,⟨⟨trivial,⟨⟨(zd zne),trivial⟩,trivial⟩⟩,trivial⟩⟩,trivial⟩,trivial⟩,trivial⟩⟩,⟨⟨⟨⟨⟨trivial,⟨⟨⟨⟨(zd zoV),trivial⟩,trivial⟩,trivial⟩,trivial⟩⟩,trivial⟩,trivial⟩,trivial⟩,trivial⟩⟩,⟨⟨trivial,⟨⟨⟨⟨trivial,⟨⟨trivial,⟨⟨(zd zm6),trivial⟩,trivial⟩⟩,trivial⟩⟩,trivial⟩,trivial⟩,trivial⟩⟩,trivial⟩⟩,⟨⟨⟨trivial,⟨⟨⟨⟨trivial,⟨⟨trivial,⟨⟨(zd zna),trivial⟩,trivial⟩⟩,trivial⟩⟩,trivial⟩,trivial⟩,trivial⟩⟩,trivial⟩,⟨⟨trivial,⟨⟨⟨⟨trivial,⟨⟨trivial,⟨⟨(zd zm2),trivial⟩,trivial⟩⟩,trivial⟩⟩,trivial⟩,trivial⟩,trivial⟩⟩,trivial⟩⟩⟩⟩
def sm34:Hk:=zaQ zcU (ssT smT34) 34 ze
def smT48:Tr (List Sm):=(.node (.node (.node (.node (.node (.node (.node (.node (.node (.node (.node .nil (.node (.node (.leaf zm1) .nil) .nil)) .nil) .nil) .nil) (.node (.node (.node (.node .nil (.node (.node (.leaf zmZ) .nil) .nil)) .nil) (.node (.node .nil (.node (.node (.leaf zmj) .nil) .nil)) .nil)) .nil)) (.node (.node (.node (.node (.node (.node (.node (.leaf s48_32) .nil) .nil) .nil) .nil) (.node (.node .nil (.node (.node (.leaf zmz) .nil) .nil)) .nil)) .nil) .nil)) (.node (.node (.node (.node .nil (.node (.node .nil (.node (.node (.leaf zmH) .nil) .nil)) .nil)) .nil) .nil) (.node (.node (.node .nil (.node (.node .nil (.node (.node (.leaf zmr) .nil) .nil)) .nil)) .nil) .nil))) (.node (.node (.node (.node (.node .nil (.node (.node .nil (.node (.node (.leaf zmL) .nil) .nil)) .nil)) (.node (.node (.node .nil (.node (.node (.leaf zmV) .nil) .nil)) .nil) .nil)) (.node .nil (.node (.node (.node .nil (.node (.node (.leaf zmP) .nil) .nil)) .nil) .nil))) (.node (.node (.node .nil (.node (.node .nil (.node (.node (.leaf zmv) .nil) .nil)) .nil)) .nil) .nil)) (.node (.node (.node (.node .nil (.node (.node .nil (.node (.node (.leaf zmD) .nil) .nil)) .nil)) .nil) .nil) (.node (.node (.node .nil (.node (.node .nil (.node (.node (.leaf zmn) .nil) .nil)) .nil)) .nil) .nil)))) (.node (.node (.node (.node (.node (.node .nil (.node (.node .nil (.node (.node (.leaf zmN) .nil) .nil)) .nil)) (.node (.node (.node .nil (.node (.node (.leaf zmX) .nil) .nil)) .nil) .nil)) (.node (.node .nil (.node (.node .nil (.node (.node (.leaf zmh) .nil) .nil)) .nil)) (.node (.node (.node .nil (.node (.node (.leaf zmR) .nil) .nil)) .nil) .nil))) (.node (.node (.node (.node (.node (.node (.node (.leaf s48_36) .nil) .nil) .nil) .nil) (.node (.node .nil (.node (.node (.leaf zmx) .nil) .nil)) .nil)) .nil) .nil)) (.node (.node (.node (.node .nil (.node (.node .nil (.node (.node (.leaf zmF) .nil) .nil)) .nil)) .nil) .nil) (.node (.node (.node .nil (.node (.node .nil (.node (.node (.leaf zmp) .nil) .nil)) .nil)) .nil) .nil))) (.node (.node (.node (.node (.node .nil (.node (.node .nil (.node (.node (.leaf zmJ) .nil) .nil)) .nil)) (.node (.node (.node .nil (.node (.node (.leaf zmT) .nil) .nil)) .nil) .nil)) .nil) (.node (.node (.node .nil (.node (.node .nil (.node (.node (.leaf zmt) .nil) .nil)) .nil)) .nil) .nil)) (.node (.node (.node (.node .nil (.node (.node .nil (.node (.node (.leaf zmB) .nil) .nil)) .nil)) .nil) .nil) (.node (.node (.node (.node (.node (.node (.node (.leaf s48_60) .nil) .nil) .nil) .nil) (.node (.node .nil (.node (.node (.leaf zml) .nil) .nil)) .nil)) .nil) .nil))))) .nil) .nil)
theorem zue:TrP (za3 zaB 48 ze) smT48:=⟨⟨⟨⟨⟨⟨⟨⟨⟨⟨⟨trivial,⟨⟨(zd zm0),trivial⟩,trivial⟩⟩,trivial⟩,trivial⟩,trivial⟩,⟨⟨⟨⟨trivial,⟨⟨(zd zmY),trivial⟩,trivial⟩⟩,trivial⟩,⟨⟨trivial,⟨⟨(zd zmi),trivial⟩,trivial⟩⟩,trivial⟩⟩,trivial⟩⟩,⟨⟨⟨⟨⟨⟨⟨(zd zrk),trivial⟩,trivial⟩,trivial⟩,trivial⟩,⟨⟨trivial,⟨⟨(zd zmy),trivial⟩,trivial⟩⟩,trivial⟩⟩,trivial⟩,trivial⟩⟩,⟨⟨⟨⟨trivial,⟨⟨trivial,⟨⟨(zd zmG),trivial⟩,trivial⟩⟩,trivial⟩⟩,trivial⟩,trivial⟩,⟨⟨⟨trivial,⟨⟨trivial,⟨⟨(zd zmq),trivial⟩,trivial⟩⟩,trivial⟩⟩,trivial⟩,trivial⟩⟩⟩,⟨⟨⟨⟨⟨trivial,⟨⟨trivial,⟨⟨(zd zmK),trivial⟩,trivial⟩⟩,trivial⟩⟩,⟨⟨⟨trivial,⟨⟨(zd zmU),trivial⟩,trivial⟩⟩,trivial⟩,trivial⟩⟩,⟨trivial,⟨⟨⟨trivial,⟨⟨(zd zmO),trivial⟩,trivial⟩⟩,trivial⟩,trivial⟩⟩⟩,⟨⟨⟨trivial,⟨⟨trivial,⟨⟨(zd zmu),trivial⟩,trivial⟩⟩,trivial⟩⟩,trivial⟩,trivial⟩⟩,⟨⟨⟨⟨trivial,⟨⟨trivial,⟨⟨(zd zmC),trivial⟩,trivial⟩⟩,trivial⟩⟩,trivial⟩,trivial⟩,⟨⟨⟨trivial,⟨⟨trivial,⟨⟨(zd zmm),trivial⟩,trivial⟩⟩,trivial⟩⟩,trivial⟩,trivial⟩⟩⟩⟩,⟨⟨⟨⟨⟨⟨trivial,⟨⟨trivial,⟨⟨(zd zmM),trivial⟩,trivial⟩⟩,trivial⟩⟩,⟨⟨⟨trivial,⟨⟨(zd zmW),trivial⟩,trivial⟩⟩,trivial⟩,trivial⟩⟩,⟨⟨trivial,⟨⟨trivial,⟨⟨(zd zmg),trivial⟩,trivial⟩⟩,trivial⟩⟩,⟨⟨⟨trivial,⟨⟨(zd zmQ),trivial⟩,trivial⟩⟩,trivial⟩,trivial⟩⟩⟩,⟨⟨⟨⟨⟨⟨⟨(zd zrj),trivial⟩,trivial⟩,trivial⟩,trivial⟩,⟨⟨trivial,⟨⟨(zd zmw),trivial⟩,trivial⟩⟩,trivial⟩⟩,trivial⟩,trivial⟩⟩,⟨⟨⟨⟨trivial,⟨⟨trivial,⟨⟨(zd zmE),trivial⟩,trivial⟩⟩,trivial⟩⟩,trivial⟩,trivial⟩,⟨⟨⟨trivial,⟨⟨trivial,⟨⟨(zd zmo),trivial⟩,trivial⟩⟩,trivial⟩⟩,trivial⟩,trivial⟩⟩⟩,⟨⟨⟨⟨⟨trivial,⟨⟨trivial,⟨⟨(zd zmI),trivial⟩,trivial⟩⟩,trivial⟩⟩,⟨⟨⟨trivial,⟨⟨(zd zmS),trivial⟩,trivial⟩⟩,trivial⟩,trivial⟩⟩,trivial⟩,⟨⟨⟨trivial,⟨⟨trivial,⟨⟨(zd zms),trivial⟩,trivial⟩⟩,trivial⟩⟩,trivial⟩,trivial⟩⟩,⟨⟨⟨⟨trivial,⟨⟨trivial,⟨⟨(zd zmA),trivial⟩,trivial⟩⟩,trivial⟩⟩,trivial⟩,trivial⟩,⟨⟨⟨⟨⟨⟨⟨(zd zri),trivial⟩,trivial⟩,trivial⟩,trivial⟩,⟨⟨trivial,⟨⟨(zd zmk),trivial⟩,trivial⟩⟩,trivial⟩⟩,trivial⟩,trivial⟩⟩⟩⟩⟩,trivial⟩,trivial⟩
def sm48:Hk:=zaQ zaB (ssT smT48) 48 ze
def smT52:Tr (List Sm):=(.node (.node (.node (.node (.node (.node (.node (.node (.node (.node (.node .nil (.node (.node (.leaf zmf) .nil) .nil)) .nil) .nil) .nil) (.node (.node (.node (.node .nil (.node (.node (.leaf zmd) .nil) .nil)) .nil) .nil) .nil)) .nil) .nil) .nil) .nil) .nil) .nil)
theorem zud:TrP (za3 mc52 52 ze) smT52:=⟨⟨⟨⟨⟨⟨⟨⟨⟨⟨⟨trivial,⟨⟨(zd zme),trivial⟩,trivial⟩⟩,trivial⟩,trivial⟩,trivial⟩,⟨⟨⟨⟨trivial,⟨⟨(zd zmc),trivial⟩,trivial⟩⟩,trivial⟩,trivial⟩,trivial⟩⟩,trivial⟩,trivial⟩,trivial⟩,trivial⟩,trivial⟩,trivial⟩
def sm52:Hk:=zaQ mc52 (ssT smT52) 52 ze
def smT71:Tr (List Sm):=(.node (.node (.node (.node (.node (.node (.node (.node (.node (.node (.node .nil (.node (.node (.leaf zmb) .nil) .nil)) (.node .nil (.node (.node (.leaf zkp) .nil) .nil))) .nil) (.node (.node (.node .nil (.node (.node (.leaf zlZ) .nil) .nil)) .nil) .nil)) (.node (.node (.node (.node (.node (.node (.leaf s71_64) .nil) .nil) (.node (.node (.leaf zl5) .nil) .nil)) (.node .nil (.node (.node (.leaf zjT) .nil) .nil))) (.node (.node .nil (.node (.node (.leaf zkt) .nil) .nil)) .nil)) (.node (.node (.node .nil (.node (.node (.leaf zlt) .nil) .nil)) .nil) .nil))) (.node (.node (.node (.node (.node (.node (.node (.leaf s71_32) .nil) .nil) .nil) (.node .nil (.node (.node (.leaf zj9) .nil) .nil))) (.node (.node .nil (.node (.node (.leaf zkJ) .nil) .nil)) .nil)) (.node (.node (.node .nil (.node (.node (.leaf zlJ) .nil) .nil)) .nil) .nil)) (.node (.node (.node (.node (.node (.node (.leaf s71_96) .nil) .nil) .nil) (.node .nil (.node (.node (.leaf zjD) .nil) .nil))) .nil) (.node (.node (.node .nil (.node (.node (.leaf zld) .nil) .nil)) .nil) .nil)))) (.node (.node (.node (.node (.node .nil (.node .nil (.node (.node (.leaf zkh) .nil) .nil))) (.node (.node .nil (.node (.node (.leaf zkR) .nil) .nil)) .nil)) (.node (.node (.node .nil (.node (.node (.leaf zlR) .nil) .nil)) .nil) .nil)) (.node (.node (.node (.node (.node (.node (.leaf s71_80) .nil) .nil) .nil) (.node .nil (.node (.node (.leaf zjL) .nil) .nil))) .nil) (.node (.node (.node .nil (.node (.node (.leaf zll) .nil) .nil)) .nil) .nil))) (.node (.node (.node (.node (.node (.node (.node (.leaf s71_48) .nil) .nil) .nil) (.node .nil (.node (.node (.leaf zj1) .nil) .nil))) (.node (.node .nil (.node (.node (.leaf zkB) .nil) .nil)) .nil)) (.node (.node (.node .nil (.node (.node (.leaf zlB) .nil) .nil)) .nil) .nil)) (.node (.node (.node (.node (.node (.node (.leaf zpW) .nil) .nil) .nil) (.node .nil (.node (.node (.leaf zjv) .nil) .nil))) .nil) (.node (.node (.node .nil (.node (.node (.leaf zk5) .nil) .nil)) .nil) .nil))))) (.node (.node (.node (.node (.node (.node (.node .nil (.node (.node (.leaf zl7) .nil) .nil)) (.node .nil (.node (.node (.leaf zkl) .nil) .nil))) (.node (.node .nil (.node (.node (.leaf zkV) .nil) .nil)) .nil)) (.node (.node (.node .nil (.node (.node (.leaf zlV) .nil) .nil)) .nil) .nil)) (.node (.node (.node (.node (.node (.node (.leaf s71_72) .nil) .nil) (.node (.node (.leaf zl1) .nil) .nil)) (.node .nil (.node (.node (.leaf zjP) .nil) .nil))) .nil) (.node (.node (.node .nil (.node (.node (.leaf zlp) .nil) .nil)) .nil) .nil))) (.node (.node (.node (.node (.node (.node (.node (.leaf s71_40) .nil) .nil) .nil) (.node .nil (.node (.node (.leaf zj5) .nil) .nil))) (.node (.node .nil (.node (.node (.leaf zkF) .nil) .nil)) .nil)) (.node (.node (.node .nil (.node (.node (.leaf zlF) .nil) .nil)) .nil) .nil)) (.node (.node (.node (.node (.node (.node (.leaf zpY) .nil) .nil) .nil) (.node .nil (.node (.node (.leaf zjz) .nil) .nil))) .nil) (.node (.node (.node .nil (.node (.node (.leaf zk9) .nil) .nil)) .nil) .nil)))) (.node (.node (.node (.node (.node .nil (.node .nil (.node (.node (.leaf zkd) .nil) .nil))) (.node (.node .nil (.node (.node (.leaf zkN) .nil) .nil)) .nil)) (.node (.node (.node .nil (.node (.node (.leaf zlN) .nil) .nil)) .nil) .nil)) (.node (.node (.node (.node (.node (.node (.leaf s71_88) .nil) .nil) .nil) (.node .nil (.node (.node (.leaf zjH) .nil) .nil))) .nil) (.node (.node (.node .nil (.node (.node (.leaf zlh) .nil) .nil)) .nil) .nil))) (.node (.node (.node (.node (.node (.node (.node (.leaf s71_56) .nil) .nil) .nil) (.node .nil (.node (.node (.leaf zjX) .nil) .nil))) (.node (.node .nil (.node (.node (.leaf zkx) .nil) .nil)) .nil)) (.node (.node (.node .nil (.node (.node (.leaf zlx) .nil) .nil)) .nil) .nil)) (.node (.node (.node (.node (.node (.node (.leaf zpU) .nil) .nil) .nil) (.node .nil (.node (.node (.leaf zjr) .nil) .nil))) .nil) (.node (.node (.node .nil (.node (.node (.leaf zk1) .nil) .nil)) .nil) .nil)))))) (.node (.node (.node (.node (.node (.node (.node (.node .nil (.node (.node (.leaf zl9) .nil) .nil)) (.node .nil (.node (.node (.leaf zkn) .nil) .nil))) (.node (.node .nil (.node (.node (.leaf zkX) .nil) .nil)) .nil)) (.node (.node (.node .nil (.node (.node (.leaf zlX) .nil) .nil)) .nil) .nil)) (.node (.node (.node (.node (.node (.node (.leaf s71_68) .nil) .nil) (.node (.node (.leaf zl3) .nil) .nil)) (.node .nil (.node (.node (.leaf zjR) .nil) .nil))) (.node (.node .nil (.node (.node (.leaf zkr) .nil) .nil)) .nil)) (.node (.node (.node .nil (.node (.node (.leaf zlr) .nil) .nil)) .nil) .nil))) (.node (.node (.node (.node (.node (.node (.node (.leaf s71_36) .nil) .nil) .nil) (.node .nil (.node (.node (.leaf zj7) .nil) .nil))) (.node (.node .nil (.node (.node (.leaf zkH) .nil) .nil)) .nil)) (.node (.node (.node .nil (.node (.node (.leaf zlH) .nil) .nil)) .nil) .nil)) (.node (.node (.node (.node (.node (.node (.leaf zpZ) .nil) .nil) .nil) (.node .nil (.node (.node (.leaf zjB) .nil) .nil))) .nil) (.node (.node (.node .nil (.node (.node (.leaf zlb) .nil) .nil)) .nil) .nil)))) (.node (.node (.node (.node (.node .nil (.node .nil (.node (.node (.leaf zkf) .nil) .nil))) (.node (.node .nil (.node (.node (.leaf zkP) .nil) .nil)) .nil)) (.node (.node (.node .nil (.node (.node (.leaf zlP) .nil) .nil)) .nil) .nil)) (.node (.node (.node (.node (.node (.node (.leaf s71_84) .nil) .nil) .nil) (.node .nil (.node (.node (.leaf zjJ) .nil) .nil))) .nil) (.node (.node (.node .nil (.node (.node (.leaf zlj) .nil) .nil)) .nil) .nil))) (.node (.node (.node (.node (.node (.node (.node (.leaf s71_52) .nil) .nil) .nil) (.node .nil (.node (.node (.leaf zjZ) .nil) .nil))) (.node (.node .nil (.node (.node (.leaf zkz) .nil) .nil)) .nil)) (.node (.node (.node .nil (.node (.node (.leaf zlz) .nil) .nil)) .nil) .nil)) (.node (.node (.node (.node (.node (.node (.leaf zpV) .nil) .nil) .nil) (.node .nil (.node (.node (.leaf zjt) .nil) .nil))) .nil) (.node (.node (.node .nil (.node (.node (.leaf zk3) .nil) .nil)) .nil) .nil))))) (.node (.node (.node (.node (.node (.node .nil (.node .nil (.node (.node (.leaf zkj) .nil) .nil))) (.node (.node .nil (.node (.node (.leaf zkT) .nil) .nil)) .nil)) (.node (.node (.node .nil (.node (.node (.leaf zlT) .nil) .nil)) .nil) .nil)) (.node (.node (.node (.node (.node (.node (.leaf s71_76) .nil) .nil) .nil) (.node .nil (.node (.node (.leaf zjN) .nil) .nil))) .nil) (.node (.node (.node .nil (.node (.node (.leaf zln) .nil) .nil)) .nil) .nil))) (.node (.node (.node (.node (.node (.node (.node (.leaf s71_44) .nil) .nil) .nil) (.node .nil (.node (.node (.leaf zj3) .nil) .nil))) (.node (.node .nil (.node (.node (.leaf zkD) .nil) .nil)) .nil)) (.node (.node (.node .nil (.node (.node (.leaf zlD) .nil) .nil)) .nil) .nil)) (.node (.node (.node (.node (.node (.node (.leaf zpX) .nil) .nil) .nil) (.node .nil (.node (.node (.leaf zjx) .nil) .nil))) .nil) (.node (.node (.node .nil (.node (.node (.leaf zk7) .nil) .nil)) .nil) .nil)))) (.node (.node (.node (.node (.node .nil (.node .nil (.node (.node (.leaf zkb) .nil) .nil))) (.node (.node .nil (.node (.node (.leaf zkL) .nil) .nil)) .nil)) (.node (.node (.node .nil (.node (.node (.leaf zlL) .nil) .nil)) .nil) .nil)) (.node (.node (.node (.node (.node (.node (.leaf s71_92) .nil) .nil) .nil) (.node .nil (.node (.node (.leaf zjF) .nil) .nil))) .nil) (.node (.node (.node .nil (.node (.node (.leaf zlf) .nil) .nil)) .nil) .nil))) (.node (.node (.node (.node (.node (.node (.node (.leaf s71_60) .nil) .nil) .nil) (.node .nil (.node (.node (.leaf zjV) .nil) .nil))) (.node (.node .nil (.node (.node (.leaf zkv) .nil) .nil)) .nil)) (.node (.node (.node .nil (.node (.node (.leaf zlv) .nil) .nil)) .nil) .nil)) (.node (.node (.node (.node (.node (.node (.leaf zpT) .nil) .nil) .nil) (.node .nil (.node (.node (.leaf zjp) .nil) .nil))) .nil) (.node (.node (.node .nil (.node (.node (.leaf zkZ) .nil) .nil)) .nil) .nil))))))) .nil) .nil)
theorem zuc:TrP (za3 zy 71 ze) smT71:=⟨⟨⟨⟨⟨⟨⟨⟨⟨⟨⟨trivial,⟨⟨(zd zma),trivial⟩,trivial⟩⟩,⟨trivial,⟨⟨(zd zko),trivial⟩,trivial⟩⟩⟩,trivial⟩,⟨⟨⟨trivial,⟨⟨(zd zlY),trivial⟩,trivial⟩⟩,trivial⟩,trivial⟩⟩,⟨⟨⟨⟨⟨⟨(zd zq9),trivial⟩,trivial⟩,⟨⟨(zd zl4),trivial⟩,trivial⟩⟩,⟨trivial,⟨⟨(zd zjS),trivial⟩,trivial⟩⟩⟩,⟨⟨trivial,⟨⟨(zd zks),trivial⟩,trivial⟩⟩,trivial⟩⟩,⟨⟨⟨trivial,⟨⟨(zd zls),trivial⟩,trivial⟩⟩,trivial⟩,trivial⟩⟩⟩,⟨⟨⟨⟨⟨⟨⟨(zd zrh),trivial⟩,trivial⟩,trivial⟩,⟨trivial,⟨⟨(zd zj8),trivial⟩,trivial⟩⟩⟩,⟨⟨trivial,⟨⟨(zd zkI),trivial⟩,trivial⟩⟩,trivial⟩⟩,⟨⟨⟨trivial,⟨⟨(zd zlI),trivial⟩,trivial⟩⟩,trivial⟩,trivial⟩⟩,⟨⟨⟨⟨⟨⟨(zd zq1),trivial⟩,trivial⟩,trivial⟩,⟨trivial,⟨⟨(zd zjC),trivial⟩,trivial⟩⟩⟩,trivial⟩,⟨⟨⟨trivial,⟨⟨(zd zlc),trivial⟩,trivial⟩⟩,trivial⟩,trivial⟩⟩⟩⟩,⟨⟨⟨⟨⟨trivial,⟨trivial,⟨⟨(zd zkg),trivial⟩,trivial⟩⟩⟩,⟨⟨trivial,⟨⟨(zd zkQ),trivial⟩,trivial⟩⟩,trivial⟩⟩,⟨⟨⟨trivial,⟨⟨(zd zlQ),trivial⟩,trivial⟩⟩,trivial⟩,trivial⟩⟩,⟨⟨⟨⟨⟨⟨(zd zq5),trivial⟩,trivial⟩,trivial⟩,⟨trivial,⟨⟨(zd zjK),trivial⟩,trivial⟩⟩⟩,trivial⟩,⟨⟨⟨trivial,⟨⟨(zd zlk),trivial⟩,trivial⟩⟩,trivial⟩,trivial⟩⟩⟩,⟨⟨⟨⟨⟨⟨⟨(zd zrd),trivial⟩,trivial⟩,trivial⟩,⟨trivial,⟨⟨(zd zj0),trivial⟩,trivial⟩⟩⟩,⟨⟨trivial,⟨⟨(zd zkA),trivial⟩,trivial⟩⟩,trivial⟩⟩,⟨⟨⟨trivial,⟨⟨(zd zlA),trivial⟩,trivial⟩⟩,trivial⟩,trivial⟩⟩,⟨⟨⟨⟨⟨⟨(zd zoR),trivial⟩,trivial⟩,trivial⟩,⟨trivial,⟨⟨(zd zju),trivial⟩,trivial⟩⟩⟩,trivial⟩,⟨⟨⟨trivial,⟨⟨(zd zk4),trivial⟩,trivial⟩⟩,trivial⟩,trivial⟩⟩⟩⟩⟩,⟨⟨⟨⟨⟨⟨⟨trivial,⟨⟨(zd zl6),trivial⟩,trivial⟩⟩,⟨trivial,⟨⟨(zd zkk),trivial⟩,trivial⟩⟩⟩,⟨⟨trivial,⟨⟨(zd zkU),trivial⟩,trivial⟩⟩,trivial⟩⟩,⟨⟨⟨trivial,⟨⟨(zd zlU),trivial⟩,trivial⟩⟩,trivial⟩,trivial⟩⟩,⟨⟨⟨⟨⟨⟨(zd zq7),trivial⟩,trivial⟩,⟨⟨(zd zl0),trivial⟩,trivial⟩⟩,⟨trivial,⟨⟨(zd zjO),trivial⟩,trivial⟩⟩⟩,trivial⟩,⟨⟨⟨trivial,⟨⟨(zd zlo),trivial⟩,trivial⟩⟩,trivial⟩,trivial⟩⟩⟩,⟨⟨⟨⟨⟨⟨⟨(zd zrf),trivial⟩,trivial⟩,trivial⟩,⟨trivial,⟨⟨(zd zj4),trivial⟩,trivial⟩⟩⟩,⟨⟨trivial,⟨⟨(zd zkE),trivial⟩,trivial⟩⟩,trivial⟩⟩,⟨⟨⟨trivial,⟨⟨(zd zlE),trivial⟩,trivial⟩⟩,trivial⟩,trivial⟩⟩,⟨⟨⟨⟨⟨⟨(zd zoT),trivial⟩,trivial⟩,trivial⟩,⟨trivial,⟨⟨(zd zjy),trivial⟩,trivial⟩⟩⟩,trivial⟩,⟨⟨⟨trivial,⟨⟨(zd zk8),trivial⟩,trivial⟩⟩,trivial⟩,trivial⟩⟩⟩⟩,⟨⟨⟨⟨⟨trivial,⟨trivial,⟨⟨(zd zkc),trivial⟩,trivial⟩⟩⟩,⟨⟨trivial,⟨⟨(zd zkM),trivial⟩,trivial⟩⟩,trivial⟩⟩,⟨⟨⟨trivial,⟨⟨(zd zlM),trivial⟩,trivial⟩⟩,trivial⟩,trivial⟩⟩,⟨⟨⟨⟨⟨⟨(zd zq3),trivial⟩,trivial⟩,trivial⟩,⟨trivial,⟨⟨(zd zjG),trivial⟩,trivial⟩⟩⟩,trivial⟩,⟨⟨⟨trivial,⟨⟨(zd zlg),trivial⟩,trivial⟩⟩,trivial⟩,trivial⟩⟩⟩,⟨⟨⟨⟨⟨⟨⟨(zd zrb),trivial⟩,trivial⟩,trivial⟩,⟨trivial,⟨⟨(zd zjW),trivial⟩,trivial⟩⟩⟩,⟨⟨trivial,⟨⟨(zd zkw),trivial⟩,trivial⟩⟩,trivial⟩⟩,⟨⟨⟨trivial,⟨⟨(zd zlw),trivial⟩,trivial⟩⟩,trivial⟩,trivial⟩⟩,⟨⟨⟨⟨⟨⟨(zd zoP),trivial⟩,trivial⟩,trivial⟩,⟨trivial,⟨⟨(zd zjq),trivial⟩,trivial⟩⟩⟩,trivial⟩,⟨⟨⟨trivial,⟨⟨(zd zk0),trivial⟩,trivial⟩⟩,trivial⟩,trivial⟩⟩⟩⟩⟩⟩,⟨⟨⟨⟨⟨⟨⟨⟨trivial,⟨⟨(zd zl8),trivial⟩,trivial⟩⟩,⟨trivial,⟨⟨(zd zkm),trivial⟩,trivial⟩⟩⟩,⟨⟨trivial,⟨⟨(zd zkW),trivial⟩,trivial⟩⟩,trivial⟩⟩,⟨⟨⟨trivial,⟨⟨(zd zlW),trivial⟩,trivial⟩⟩,trivial⟩,trivial⟩⟩,⟨⟨⟨⟨⟨⟨(zd zq8),trivial⟩,trivial⟩,⟨⟨(zd zl2),trivial⟩,trivial⟩⟩,⟨trivial,⟨⟨(zd zjQ),trivial⟩,trivial⟩⟩⟩,⟨⟨trivial,⟨⟨(zd zkq),trivial⟩,trivial⟩⟩,trivial⟩⟩,⟨⟨⟨trivial,⟨⟨(zd zlq),trivial⟩,trivial⟩⟩,trivial⟩,trivial⟩⟩⟩,⟨⟨⟨⟨⟨⟨⟨(zd zrg),trivial⟩,trivial⟩,trivial⟩,⟨trivial,⟨⟨(zd zj6),trivial⟩,trivial⟩⟩⟩,⟨⟨trivial,⟨⟨(zd zkG),trivial⟩,trivial⟩⟩,trivial⟩⟩,⟨⟨⟨trivial,⟨⟨(zd zlG),trivial⟩,trivial⟩⟩,trivial⟩,trivial⟩⟩,⟨⟨⟨⟨⟨⟨(zd zoU),trivial⟩,trivial⟩,trivial⟩,⟨trivial,⟨⟨(zd zjA),trivial⟩,trivial⟩⟩⟩,trivial⟩,⟨⟨⟨trivial,⟨⟨(zd zla),trivial⟩,trivial⟩⟩,trivial⟩,trivial⟩⟩⟩⟩,⟨⟨⟨⟨⟨trivial,⟨trivial,⟨⟨(zd zke),trivial⟩,trivial⟩⟩⟩,⟨⟨trivial,⟨⟨(zd zkO),trivial⟩,trivial⟩⟩,trivial⟩⟩,⟨⟨⟨trivial,⟨⟨(zd zlO),trivial⟩,trivial⟩⟩,trivial⟩,trivial⟩⟩,⟨⟨⟨⟨⟨⟨(zd zq4),trivial⟩,trivial⟩,trivial⟩,⟨trivial,⟨⟨(zd zjI),trivial⟩,trivial⟩⟩⟩,trivial⟩,⟨⟨⟨trivial,⟨⟨(zd zli),trivial⟩,trivial⟩⟩,trivial⟩,trivial⟩⟩⟩,⟨⟨⟨⟨⟨⟨⟨(zd zrc),trivial⟩,trivial⟩,trivial⟩,⟨trivial,⟨⟨(zd zjY),trivial⟩,trivial⟩⟩⟩,⟨⟨trivial,⟨⟨(zd zky),trivial⟩,trivial⟩⟩,trivial⟩⟩,⟨⟨⟨trivial,⟨⟨(zd zly),trivial⟩,trivial⟩⟩,trivial⟩,trivial⟩⟩,⟨⟨⟨⟨⟨⟨(zd zoQ),trivial⟩,trivial⟩,trivial⟩,⟨trivial,⟨⟨(zd zjs),trivial⟩,trivial⟩⟩⟩,trivial⟩,⟨⟨⟨trivial,⟨⟨(zd zk2),trivial⟩,trivial⟩⟩,trivial⟩,trivial⟩⟩⟩⟩⟩,⟨⟨⟨⟨⟨⟨trivial,⟨trivial,⟨⟨(zd zki),trivial⟩,trivial⟩⟩⟩,⟨⟨trivial,⟨⟨(zd zkS),trivial⟩,trivial⟩⟩,trivial⟩⟩,⟨⟨⟨trivial,⟨⟨(zd zlS),trivial⟩,trivial⟩⟩,trivial⟩,trivial⟩⟩,⟨⟨⟨⟨⟨⟨(zd zq6),trivial⟩,trivial⟩,trivial⟩,⟨trivial,⟨⟨(zd zjM),trivial⟩,trivial⟩⟩⟩,trivial⟩,⟨⟨⟨trivial,⟨⟨(zd zlm),trivial⟩,trivial⟩⟩,trivial⟩,trivial⟩⟩⟩,⟨⟨⟨⟨⟨⟨⟨(zd zre),trivial⟩,trivial⟩,trivial⟩,⟨trivial,⟨⟨(zd zj2),trivial⟩,trivial⟩⟩⟩,⟨⟨trivial,⟨⟨(zd zkC),trivial⟩,trivial⟩⟩,trivial⟩⟩,⟨⟨⟨trivial,⟨⟨(zd zlC),trivial⟩,trivial⟩⟩,trivial⟩,trivial⟩⟩,⟨⟨⟨⟨⟨⟨(zd zoS),trivial⟩,trivial⟩,trivial⟩,⟨trivial,⟨⟨(zd zjw),trivial⟩,trivial⟩⟩⟩,trivial⟩,⟨⟨⟨trivial,⟨⟨(zd zk6),trivial⟩,trivial⟩⟩,trivial⟩,trivial⟩⟩⟩⟩,⟨⟨⟨⟨⟨trivial,⟨trivial,⟨⟨(zd zka),trivial⟩,trivial⟩⟩⟩,⟨⟨trivial,⟨⟨(zd zkK),trivial⟩,trivial⟩⟩,trivial⟩⟩,⟨⟨⟨trivial,⟨⟨(zd zlK),trivial⟩,trivial⟩⟩,trivial⟩,trivial⟩⟩,⟨⟨⟨⟨⟨⟨(zd zq2),trivial⟩,trivial⟩,trivial⟩,⟨trivial,⟨⟨(zd zjE),trivial⟩,trivial⟩⟩⟩,trivial⟩,⟨⟨⟨trivial,⟨⟨(zd zle),trivial⟩,trivial⟩⟩,trivial⟩,trivial⟩⟩⟩,⟨⟨⟨⟨⟨⟨⟨(zd zra),trivial⟩,trivial⟩,trivial⟩,⟨trivial,⟨⟨(zd zjU),trivial⟩,trivial⟩⟩⟩,⟨⟨trivial,⟨⟨(zd zku),trivial⟩,trivial⟩⟩,trivial⟩⟩,⟨⟨⟨trivial,⟨⟨(zd zlu),trivial⟩,trivial⟩⟩,trivial⟩,trivial⟩⟩,⟨⟨⟨⟨⟨⟨(zd zoO),trivial⟩,trivial⟩,trivial⟩,⟨trivial,⟨⟨(zd zjo),trivial⟩,trivial⟩⟩⟩,trivial⟩,⟨⟨⟨trivial,⟨⟨(zd zkY),trivial⟩,trivial⟩⟩,trivial⟩,trivial⟩⟩⟩⟩⟩⟩⟩,trivial⟩,trivial⟩
def sm71:Hk:=zaQ zy (ssT smT71) 71 ze
def smT101:Tr (List Sm):=(.node (.node (.node (.node .nil (.node (.node (.node (.node (.node (.node (.node (.node (.node (.leaf s101_8) .nil) .nil) .nil) .nil) .nil) .nil) .nil) .nil) .nil)) (.node (.node (.node (.node (.node (.node (.node (.node (.node (.node (.leaf s101_4) .nil) .nil) .nil) .nil) .nil) .nil) .nil) .nil) .nil) .nil)) (.node (.node (.node (.node (.node (.node (.node (.node (.node (.node (.node (.leaf s101_2) .nil) .nil) .nil) .nil) .nil) .nil) .nil) .nil) .nil) .nil) .nil)) (.node (.node (.node (.node (.node (.node (.node (.node (.node (.node (.node (.node (.leaf s101_1) .nil) .nil) .nil) .nil) .nil) .nil) .nil) .nil) (.node (.node (.node (.node (.node (.node (.node (.node (.leaf zp1) .nil) .nil) .nil) .nil) .nil) .nil) .nil) .nil)) (.node (.node (.node (.node (.node .nil (.node (.node (.node (.node (.leaf znn) .nil) .nil) .nil) .nil)) .nil) .nil) .nil) .nil)) .nil) .nil))
theorem zqW:TrP (za3 zeI 101 ze) smT101:=⟨⟨⟨⟨trivial,⟨⟨⟨⟨⟨⟨⟨⟨⟨(zd zrm),trivial⟩,trivial⟩,trivial⟩,trivial⟩,trivial⟩,trivial⟩,trivial⟩,trivial⟩,trivial⟩⟩,⟨⟨⟨⟨⟨⟨⟨⟨⟨⟨(zd zrn),trivial⟩,trivial⟩,trivial⟩,trivial⟩,trivial⟩,trivial⟩,trivial⟩,trivial⟩,trivial⟩,trivial⟩⟩,⟨⟨⟨⟨⟨⟨⟨⟨⟨⟨⟨(zd zro),trivial⟩,trivial⟩,trivial⟩,trivial⟩,trivial⟩,trivial⟩,trivial⟩,trivial⟩,trivial⟩,trivial⟩,trivial⟩⟩,⟨⟨⟨⟨⟨⟨⟨⟨⟨⟨⟨⟨(zd zrp),trivial⟩,trivial⟩,trivial⟩,trivial⟩,trivial⟩,trivial⟩,trivial⟩,trivial⟩,⟨⟨⟨⟨⟨⟨⟨⟨(zd zoW),trivial⟩,trivial⟩,trivial⟩,trivial⟩,trivial⟩,trivial⟩,trivial⟩,trivial⟩⟩,⟨⟨⟨⟨⟨trivial,⟨⟨⟨⟨(zd znm),trivial⟩,trivial⟩,trivial⟩,trivial⟩⟩,trivial⟩,trivial⟩,trivial⟩,trivial⟩⟩,trivial⟩,trivial⟩⟩
def zgz:Hk:=zaQ zeI (ssT smT101) 101 ze
def smT242:Tr (List Sm):=(.node (.node (.node (.node (.node (.node (.node (.node (.node (.node .nil (.node .nil (.node (.node (.leaf zg9) .nil) .nil))) .nil) .nil) (.node (.node (.node .nil (.node .nil (.node (.node (.leaf zg1) .nil) .nil))) .nil) .nil)) (.node (.node (.node (.node .nil (.node .nil (.node (.node (.leaf zg5) .nil) .nil))) .nil) .nil) (.node (.node (.node .nil (.node .nil (.node (.node (.leaf zgX) .nil) .nil))) .nil) .nil))) (.node (.node (.node (.node (.node .nil (.node .nil (.node (.node (.leaf zg7) .nil) .nil))) .nil) .nil) (.node (.node (.node .nil (.node .nil (.node (.node (.leaf zgZ) .nil) .nil))) .nil) .nil)) (.node (.node (.node (.node .nil (.node .nil (.node (.node (.leaf zg3) .nil) .nil))) .nil) .nil) (.node (.node (.node .nil (.node .nil (.node (.node (.leaf zgV) .nil) .nil))) .nil) .nil)))) (.node (.node (.node (.node (.node (.node .nil (.node .nil (.node (.node (.leaf zg8) .nil) .nil))) (.node (.node .nil (.node (.node (.leaf zha) .nil) .nil)) .nil)) .nil) (.node (.node (.node .nil (.node .nil (.node (.node (.leaf zg0) .nil) .nil))) .nil) .nil)) (.node (.node (.node (.node .nil (.node .nil (.node (.node (.leaf zg4) .nil) .nil))) .nil) .nil) (.node (.node (.node .nil (.node .nil (.node (.node (.leaf zgW) .nil) .nil))) .nil) .nil))) (.node (.node (.node (.node (.node .nil (.node .nil (.node (.node (.leaf zg6) .nil) .nil))) .nil) .nil) (.node (.node (.node .nil (.node .nil (.node (.node (.leaf zgY) .nil) .nil))) .nil) .nil)) (.node (.node (.node (.node .nil (.node .nil (.node (.node (.leaf zg2) .nil) .nil))) .nil) .nil) (.node (.node (.node .nil (.node .nil (.node (.node (.leaf zgU) .nil) .nil))) .nil) .nil))))) .nil) .nil) .nil)
theorem zqV:TrP (za3 zaD 242 ze) smT242:=⟨⟨⟨⟨⟨⟨⟨⟨⟨⟨trivial,⟨trivial,⟨⟨(zd zio),trivial⟩,trivial⟩⟩⟩,trivial⟩,trivial⟩,⟨⟨⟨trivial,⟨trivial,⟨⟨(zd zig),trivial⟩,trivial⟩⟩⟩,trivial⟩,trivial⟩⟩,⟨⟨⟨⟨trivial,⟨trivial,⟨⟨(zd zik),trivial⟩,trivial⟩⟩⟩,trivial⟩,trivial⟩,⟨⟨⟨trivial,⟨trivial,⟨⟨(zd zic),trivial⟩,trivial⟩⟩⟩,trivial⟩,trivial⟩⟩⟩,⟨⟨⟨⟨⟨trivial,⟨trivial,⟨⟨(zd zim),trivial⟩,trivial⟩⟩⟩,trivial⟩,trivial⟩,⟨⟨⟨trivial,⟨trivial,⟨⟨(zd zie),trivial⟩,trivial⟩⟩⟩,trivial⟩,trivial⟩⟩,⟨⟨⟨⟨trivial,⟨trivial,⟨⟨(zd zii),trivial⟩,trivial⟩⟩⟩,trivial⟩,trivial⟩,⟨⟨⟨trivial,⟨trivial,⟨⟨(zd zia),trivial⟩,trivial⟩⟩⟩,trivial⟩,trivial⟩⟩⟩⟩,⟨⟨⟨⟨⟨⟨trivial,⟨trivial,⟨⟨(zd zin),trivial⟩,trivial⟩⟩⟩,⟨⟨trivial,⟨⟨(zd ziq),trivial⟩,trivial⟩⟩,trivial⟩⟩,trivial⟩,⟨⟨⟨trivial,⟨trivial,⟨⟨(zd zif),trivial⟩,trivial⟩⟩⟩,trivial⟩,trivial⟩⟩,⟨⟨⟨⟨trivial,⟨trivial,⟨⟨(zd zij),trivial⟩,trivial⟩⟩⟩,trivial⟩,trivial⟩,⟨⟨⟨trivial,⟨trivial,⟨⟨(zd zib),trivial⟩,trivial⟩⟩⟩,trivial⟩,trivial⟩⟩⟩,⟨⟨⟨⟨⟨trivial,⟨trivial,⟨⟨(zd zil),trivial⟩,trivial⟩⟩⟩,trivial⟩,trivial⟩,⟨⟨⟨trivial,⟨trivial,⟨⟨(zd zid),trivial⟩,trivial⟩⟩⟩,trivial⟩,trivial⟩⟩,⟨⟨⟨⟨trivial,⟨trivial,⟨⟨(zd zih),trivial⟩,trivial⟩⟩⟩,trivial⟩,trivial⟩,⟨⟨⟨trivial,⟨trivial,⟨⟨(zd zh9),trivial⟩,trivial⟩⟩⟩,trivial⟩,trivial⟩⟩⟩⟩⟩,trivial⟩,trivial⟩,trivial⟩
def zfy:Hk:=zaQ zaD (ssT smT242) 242 ze
def smT244:Tr (List Sm):=(.node (.node (.node (.node (.node (.node (.node (.node (.node (.node .nil (.node .nil (.node (.node (.leaf zgS) .nil) .nil))) (.node (.node .nil (.node (.node (.leaf zgT) .nil) .nil)) .nil)) .nil) .nil) (.node (.node (.node (.node .nil (.node .nil (.node (.node (.leaf zgK) .nil) .nil))) .nil) .nil) .nil)) (.node (.node (.node (.node (.node .nil (.node .nil (.node (.node (.leaf zgO) .nil) .nil))) .nil) .nil) .nil) (.node (.node (.node (.node .nil (.node .nil (.node (.node (.leaf zgG) .nil) .nil))) .nil) .nil) .nil))) (.node (.node (.node (.node (.node (.node .nil (.node .nil (.node (.node (.leaf zgQ) .nil) .nil))) .nil) .nil) .nil) (.node (.node (.node (.node .nil (.node .nil (.node (.node (.leaf zgI) .nil) .nil))) .nil) .nil) .nil)) (.node (.node (.node (.node (.node .nil (.node .nil (.node (.node (.leaf zgM) .nil) .nil))) .nil) .nil) .nil) (.node (.node (.node (.node .nil (.node .nil (.node (.node (.leaf zgE) .nil) .nil))) .nil) .nil) .nil)))) (.node (.node (.node (.node (.node (.node (.node .nil (.node .nil (.node (.node (.leaf zgR) .nil) .nil))) .nil) .nil) .nil) (.node (.node (.node (.node .nil (.node .nil (.node (.node (.leaf zgJ) .nil) .nil))) .nil) .nil) .nil)) (.node (.node (.node (.node (.node .nil (.node .nil (.node (.node (.leaf zgN) .nil) .nil))) .nil) .nil) .nil) (.node (.node (.node (.node .nil (.node .nil (.node (.node (.leaf zgF) .nil) .nil))) .nil) .nil) .nil))) (.node (.node (.node (.node (.node (.node .nil (.node .nil (.node (.node (.leaf zgP) .nil) .nil))) .nil) .nil) .nil) (.node (.node (.node (.node .nil (.node .nil (.node (.node (.leaf zgH) .nil) .nil))) .nil) .nil) .nil)) (.node (.node (.node (.node (.node .nil (.node .nil (.node (.node (.leaf zgL) .nil) .nil))) .nil) .nil) .nil) (.node (.node (.node (.node .nil (.node .nil (.node (.node (.leaf zgD) .nil) .nil))) .nil) .nil) .nil))))) .nil) .nil)
theorem zqU:TrP (za3 zaC 244 ze) smT244:=⟨⟨⟨⟨⟨⟨⟨⟨⟨⟨trivial,⟨trivial,⟨⟨(zd zh7),trivial⟩,trivial⟩⟩⟩,⟨⟨trivial,⟨⟨(zd zh8),trivial⟩,trivial⟩⟩,trivial⟩⟩,trivial⟩,trivial⟩,⟨⟨⟨⟨trivial,⟨trivial,⟨⟨(zd zhZ),trivial⟩,trivial⟩⟩⟩,trivial⟩,trivial⟩,trivial⟩⟩,⟨⟨⟨⟨⟨trivial,⟨trivial,⟨⟨(zd zh3),trivial⟩,trivial⟩⟩⟩,trivial⟩,trivial⟩,trivial⟩,⟨⟨⟨⟨trivial,⟨trivial,⟨⟨(zd zhV),trivial⟩,trivial⟩⟩⟩,trivial⟩,trivial⟩,trivial⟩⟩⟩,⟨⟨⟨⟨⟨⟨trivial,⟨trivial,⟨⟨(zd zh5),trivial⟩,trivial⟩⟩⟩,trivial⟩,trivial⟩,trivial⟩,⟨⟨⟨⟨trivial,⟨trivial,⟨⟨(zd zhX),trivial⟩,trivial⟩⟩⟩,trivial⟩,trivial⟩,trivial⟩⟩,⟨⟨⟨⟨⟨trivial,⟨trivial,⟨⟨(zd zh1),trivial⟩,trivial⟩⟩⟩,trivial⟩,trivial⟩,trivial⟩,⟨⟨⟨⟨trivial,⟨trivial,⟨⟨(zd zhT),trivial⟩,trivial⟩⟩⟩,trivial⟩,trivial⟩,trivial⟩⟩⟩⟩,⟨⟨⟨⟨⟨⟨⟨trivial,⟨trivial,⟨⟨(zd zh6),trivial⟩,trivial⟩⟩⟩,trivial⟩,trivial⟩,trivial⟩,⟨⟨⟨⟨trivial,⟨trivial,⟨⟨(zd zhY),trivial⟩,trivial⟩⟩⟩,trivial⟩,trivial⟩,trivial⟩⟩,⟨⟨⟨⟨⟨trivial,⟨trivial,⟨⟨(zd zh2),trivial⟩,trivial⟩⟩⟩,trivial⟩,trivial⟩,trivial⟩,⟨⟨⟨⟨trivial,⟨trivial,⟨⟨(zd zhU),trivial⟩,trivial⟩⟩⟩,trivial⟩,trivial⟩,trivial⟩⟩⟩,⟨⟨⟨⟨⟨⟨trivial,⟨trivial,⟨⟨(zd zh4),trivial⟩,trivial⟩⟩⟩,trivial⟩,trivial⟩,trivial⟩,⟨⟨⟨⟨trivial,⟨trivial,⟨⟨(zd zhW),trivial⟩,trivial⟩⟩⟩,trivial⟩,trivial⟩,trivial⟩⟩,⟨⟨⟨⟨⟨trivial,⟨trivial,⟨⟨(zd zh0),trivial⟩,trivial⟩⟩⟩,trivial⟩,trivial⟩,trivial⟩,⟨⟨⟨⟨trivial,⟨trivial,⟨⟨(zd zhS),trivial⟩,trivial⟩⟩⟩,trivial⟩,trivial⟩,trivial⟩⟩⟩⟩⟩,trivial⟩,trivial⟩
def zeF:Hk:=zaQ zaC (ssT smT244) 244 ze
def smT291:Tr (List Sm):=(.node (.node (.node (.node (.node (.node (.node (.node (.node .nil (.node (.node .nil (.node (.node (.leaf zgC) .nil) .nil)) .nil)) .nil) .nil) .nil) .nil) .nil) .nil) .nil) .nil)
theorem zqT:TrP (za3 mc291 291 ze) smT291:=⟨⟨⟨⟨⟨⟨⟨⟨⟨trivial,⟨⟨trivial,⟨⟨(zd zhR),trivial⟩,trivial⟩⟩,trivial⟩⟩,trivial⟩,trivial⟩,trivial⟩,trivial⟩,trivial⟩,trivial⟩,trivial⟩,trivial⟩
def zdw:Hk:=zaQ mc291 (ssT smT291) 291 ze
variable {E:Env}
def LenB (E:Env):Prop:=zf E Tryz.prog (fun G l h fa k=>bc (Nat.beq G 197) (lenX l h fa k) 1)
def AnyB (E:Env):Prop:=zf E Tryz.prog (fun G l h fa k=>bc (Nat.beq G 238) (anyX l h fa k) 1)
def SamB (E:Env):Prop:=zf E Tryz.prog (fun G l h fa k=>bc (Nat.beq G 17) (samT l h fa k) 1)
structure LenOk (E:Env):Prop where
 len:LenB E
 any:AnyB E
 sam:SamB E
def jx (E:Env):Prop:=∀ E':Env,(∀ q,q≠7->E'.s q=E.s q)->LenOk E'
theorem jx.one (h:jx E):LenOk E:=h E (fun _ _=>rfl)
theorem yp {C:Nat->Option Hk} {a:Nat} {s:Hk} (hs:zf E Tryz.prog (fun G l h fa k=>bc (Nat.beq G a) (s l h fa k) 1))
  (hC:∀ F t,C F=some t->zf E Tryz.prog (fun G l h fa k=>bc (Nat.beq G F) (t l h fa k) 1)):∀ F t,bc (Nat.beq F a) (some s) (C F)=some t->zf E Tryz.prog (fun G l h fa k=>bc (Nat.beq G F) (t l h fa k) 1):=by
 intro F t h
 cases e:Nat.beq F a with
 | true=>
  rw[e]at h
  have h:some s=some t:=h
  cases h
  have e:F=a:=by simpa using e
  subst e
  exact hs
 | false=>rw[e]at h;exact hC F t h
theorem zv3:∀ F t,(none:Option Hk)=some t->zf E Tryz.prog (fun G l h fa k=>bc (Nat.beq G F) (t l h fa k) 1):=fun F t h=>by cases h
theorem hk0_ok (hlen:LenOk E):∀ F t,hk0 F=some t->zf E Tryz.prog (fun G l h fa k=>bc (Nat.beq G F) (t l h fa k) 1):=yp (C:=fun F=>(bc (Nat.beq F 238) (some anyX) (bc (Nat.beq F 17) (some samT) none))) (hlen.len) (yp (C:=fun F=>(bc (Nat.beq F 17) (some samT) none)) (hlen.any) (yp (C:=fun F=>none) (hlen.sam) (zv3)))
theorem cx0_ok (hlen:LenOk E):CxOk E Tryz.prog (zp Tryz.prog) cx0:=⟨zq,ya,fun F i h=>zdh h,hk0_ok hlen⟩
theorem zaH (hlen:LenOk E):zf E Tryz.prog ze:=zaU (cx0_ok hlen) 100
theorem hk0_okA (hlen:jx E):∀ F t,hk0 F=some t->zf E Tryz.prog (fun G l h fa k=>bc (Nat.beq G F) (t l h fa k) 1):=hk0_ok hlen.one
def hkH0 (F:Nat):Option Hk:=(bc (Nat.beq F 24) (some sm24) (bc (Nat.beq F 34) (some sm34) (bc (Nat.beq F 48) (some sm48) (bc (Nat.beq F 52) (some sm52) (bc (Nat.beq F 71) (some sm71) (bc (Nat.beq F 101) (some zgz) (bc (Nat.beq F 242) (some zfy) (bc (Nat.beq F 244) (some zeF) (bc (Nat.beq F 291) (some zdw) (hk0 F))))))))))
theorem hkH0_ok (hlen:jx E):∀ F t,hkH0 F=some t->zf E Tryz.prog (fun G l h fa k=>bc (Nat.beq G F) (t l h fa k) 1):=yp (C:=fun F=>(bc (Nat.beq F 34) (some sm34) (bc (Nat.beq F 48) (some sm48) (bc (Nat.beq F 52) (some sm52) (bc (Nat.beq F 71) (some sm71) (bc (Nat.beq F 101) (some zgz) (bc (Nat.beq F 242) (some zfy) (bc (Nat.beq F 244) (some zeF) (bc (Nat.beq F 291) (some zdw) (hk0 F)))))))))) (zdu (fun E' h=>zaH (hlen E' h)) zuh) (yp (C:=fun F=>(bc (Nat.beq F 48) (some sm48) (bc (Nat.beq F 52) (some sm52) (bc (Nat.beq F 71) (some sm71) (bc (Nat.beq F 101) (some zgz) (bc (Nat.beq F 242) (some zfy) (bc (Nat.beq F 244) (some zeF) (bc (Nat.beq F 291) (some zdw) (hk0 F))))))))) (zdu (fun E' h=>zaH (hlen E' h)) zuf) (yp (C:=fun F=>(bc (Nat.beq F 52) (some sm52) (bc (Nat.beq F 71) (some sm71) (bc (Nat.beq F 101) (some zgz) (bc (Nat.beq F 242) (some zfy) (bc (Nat.beq F 244) (some zeF) (bc (Nat.beq F 291) (some zdw) (hk0 F)))))))) (zdu (fun E' h=>zaH (hlen E' h)) zue) (yp (C:=fun F=>(bc (Nat.beq F 71) (some sm71) (bc (Nat.beq F 101) (some zgz) (bc (Nat.beq F 242) (some zfy) (bc (Nat.beq F 244) (some zeF) (bc (Nat.beq F 291) (some zdw) (hk0 F))))))) (zdu (fun E' h=>zaH (hlen E' h)) zud) (yp (C:=fun F=>(bc (Nat.beq F 101) (some zgz) (bc (Nat.beq F 242) (some zfy) (bc (Nat.beq F 244) (some zeF) (bc (Nat.beq F 291) (some zdw) (hk0 F)))))) (zdu (fun E' h=>zaH (hlen E' h)) zuc) (yp (C:=fun F=>(bc (Nat.beq F 242) (some zfy) (bc (Nat.beq F 244) (some zeF) (bc (Nat.beq F 291) (some zdw) (hk0 F))))) (zdu (fun E' h=>zaH (hlen E' h)) zqW) (yp (C:=fun F=>(bc (Nat.beq F 244) (some zeF) (bc (Nat.beq F 291) (some zdw) (hk0 F)))) (zdu (fun E' h=>zaH (hlen E' h)) zqV) (yp (C:=fun F=>(bc (Nat.beq F 291) (some zdw) (hk0 F))) (zdu (fun E' h=>zaH (hlen E' h)) zqU) (yp (C:=fun F=>(hk0 F)) (zdu (fun E' h=>zaH (hlen E' h)) zqT) (hk0_okA hlen)))))))))
def hkG (F:Nat):Option Hk:=(hkH0 F)
theorem hkG_ok (hlen:jx E):∀ F t,hkG F=some t->zf E Tryz.prog (fun G l h fa k=>bc (Nat.beq G F) (t l h fa k) 1):=hkH0_ok hlen
def cxG:Cx:=⟨fnX,hkG,20000⟩
def callG:zD:=zeO cxG 100
theorem cxG_ok (hlen:jx E):CxOk E Tryz.prog (zp Tryz.prog) cxG:=⟨zq,ya,fun F i h=>zdh h,hkG_ok hlen⟩
theorem zog (hlen:jx E):zf E Tryz.prog callG:=zaU (cxG_ok hlen) 100
def ct0_153:Hk:=cntT xn153.body xn153.res callG 153 20000
def zqG:Hk:=cntT xn163.body xn163.res callG 163 20000
def hkN0 (F:Nat):Option Hk:=(bc (Nat.beq F 153) (some ct0_153) (bc (Nat.beq F 163) (some zqG) (hkG F)))
theorem zqu (hlen:jx E):∀ F t,hkN0 F=some t->zf E Tryz.prog (fun G l h fa k=>bc (Nat.beq G F) (t l h fa k) 1):=yp (C:=fun F=>(bc (Nat.beq F 163) (some zqG) (hkG F))) (zpw zq ya (zog hlen) Tryz.func153 Tryz.call153 cn153 (drB wn153)) (yp (C:=fun F=>(hkG F)) (zpw zq ya (zog hlen) Tryz.func163 Tryz.call163 cn163 (drB wn163)) (hkG_ok hlen))
def cxN0:Cx:=⟨fnX,hkN0,20000⟩
def callN0:zD:=zeO cxN0 100
theorem cxN0_ok (hlen:jx E):CxOk E Tryz.prog (zp Tryz.prog) cxN0:=⟨zq,ya,fun F i h=>zdh h,zqu hlen⟩
theorem zrS (hlen:jx E):zf E Tryz.prog callN0:=zaU (cxN0_ok hlen) 100
def ct1_81:Hk:=cntT xn81.body xn81.res callN0 81 20000
def zeS (F:Nat):Option Hk:=(bc (Nat.beq F 81) (some ct1_81) (hkN0 F))
theorem zqt (hlen:jx E):∀ F t,zeS F=some t->zf E Tryz.prog (fun G l h fa k=>bc (Nat.beq G F) (t l h fa k) 1):=yp (C:=fun F=>(hkN0 F)) (zpw zq ya (zrS hlen) Tryz.func81 Tryz.call81 cn81 (drB wn81)) (zqu hlen)
def cxN1:Cx:=⟨fnX,zeS,20000⟩
def jX:zD:=zeO cxN1 100
theorem cxN1_ok (hlen:jx E):CxOk E Tryz.prog (zp Tryz.prog) cxN1:=⟨zq,ya,fun F i h=>zdh h,zqt hlen⟩
theorem yP (hlen:jx E):zf E Tryz.prog jX:=zaU (cxN1_ok hlen) 100
def zoM:zd0:=subT yc94 rs94 jX 94 20000 zcw
def zoL:zd0:=subT yc95 rs95 jX 95 20000 zcw
def zfw (F:Nat):Option zd0:=(bc (Nat.beq F 94) (some zoM) (bc (Nat.beq F 95) (some zoL) none))
theorem zcq (hlen:jx E) {s:LS} {yid:Ev.P} {hand:zeX} (hh:zc2 E Tryz.prog (zX E s yid) yid hand):SubA E Tryz.prog (zX E s yid) yid hand zfw:=by
 intro G t h
 unfold zfw at h
 cases e94':Nat.beq G 94 with
 | true=>
  rw[e94']at h
  have h:some zoM=some t:=h
  cases h
  have e:G=94:=by simpa using e94'
  subst e
  refine⟨Tryz.call94,fun l hp fa k hk hfa=>?_⟩
  have hy:=y94
  split at hy
  ·rename_i c hc
   unfold zoM at hk
   rw[<- hy]at hk
   exact zhN zq ya (yP hlen) Tryz.func94 hc e94 s hand yid l hp fa k hh zbm hk hfa
  ·rename_i hc
   exact absurd hc (by have : Tryz.f94.body.isSome = true := by kernel_rfl
                       intro hn;rw[hn]at this;cases this)
 | false=>
 rw[e94']at h
 cases e95':Nat.beq G 95 with
 | true=>
  rw[e95']at h
  have h:some zoL=some t:=h
  cases h
  have e:G=95:=by simpa using e95'
  subst e
  refine⟨Tryz.call95,fun l hp fa k hk hfa=>?_⟩
  have hy:=y95
  split at hy
  ·rename_i c hc
   unfold zoL at hk
   rw[<- hy]at hk
   exact zhN zq ya (yP hlen) Tryz.func95 hc e95 s hand yid l hp fa k hh zbm hk hfa
  ·rename_i hc
   exact absurd hc (by have : Tryz.f95.body.isSome = true := by kernel_rfl
                       intro hn;rw[hn]at this;cases this)
 | false=>
 rw[e95']at h
 cases h
def zpi:zcn:=zfY yc91 jX 91 20000 zfw
def ziS:zcn:=zfY yc231 jX 231 20000 zfw
def ziR:zcn:=zfY yc240 jX 240 20000 zfw
def ziQ:zcn:=zfY yc400 jX 400 20000 zfw
def ziP:zcn:=zfY yc404 jX 404 20000 zfw
def zcB (F:Nat):Option zcn:=(bc (Nat.beq F 91) (some zpi) (bc (Nat.beq F 231) (some ziS) (bc (Nat.beq F 240) (some ziR) (bc (Nat.beq F 400) (some ziQ) (bc (Nat.beq F 404) (some ziP) none)))))
theorem zaE (hlen:jx E):zqO E Tryz.prog zcB:=by
 intro G it h
 unfold zcB at h
 cases e91':Nat.beq G 91 with
 | true=>
  rw[e91']at h
  have h:some zpi=some it:=h
  cases h
  have e:G=91:=by simpa using e91'
  subst e
  refine⟨Tryz.call91,fun s hand yid l hp fa k hh hk hfa=>?_⟩
  have hy:=y91
  split at hy
  ·rename_i c hc
   unfold zpi at hk
   rw[<- hy]at hk
   exact zbH zq ya (yP hlen) Tryz.func91 hc e91 s hand yid l hp fa k hh (zcq hlen hh) hk hfa
  ·rename_i hc
   exact absurd hc (by have : Tryz.f91.body.isSome = true := by kernel_rfl
                       intro hn;rw[hn]at this;cases this)
 | false=>
 rw[e91']at h
 cases e231':Nat.beq G 231 with
 | true=>
  rw[e231']at h
  have h:some ziS=some it:=h
  cases h
  have e:G=231:=by simpa using e231'
  subst e
  refine⟨Tryz.call231,fun s hand yid l hp fa k hh hk hfa=>?_⟩
  have hy:=y231
  split at hy
  ·rename_i c hc
   unfold ziS at hk
   rw[<- hy]at hk
   exact zbH zq ya (yP hlen) Tryz.func231 hc e231 s hand yid l hp fa k hh (zcq hlen hh) hk hfa
  ·rename_i hc
   exact absurd hc (by have : Tryz.f231.body.isSome = true := by kernel_rfl
                       intro hn;rw[hn]at this;cases this)
 | false=>
 rw[e231']at h
 cases e240':Nat.beq G 240 with
 | true=>
  rw[e240']at h
  have h:some ziR=some it:=h
  cases h
  have e:G=240:=by simpa using e240'
  subst e
  refine⟨Tryz.call240,fun s hand yid l hp fa k hh hk hfa=>?_⟩
  have hy:=y240
  split at hy
  ·rename_i c hc
   unfold ziR at hk
   rw[<- hy]at hk
   exact zbH zq ya (yP hlen) Tryz.func240 hc e240 s hand yid l hp fa k hh (zcq hlen hh) hk hfa
  ·rename_i hc
   exact absurd hc (by have : Tryz.f240.body.isSome = true := by kernel_rfl
                       intro hn;rw[hn]at this;cases this)
 | false=>
 rw[e240']at h
 cases e400':Nat.beq G 400 with
 | true=>
  rw[e400']at h
  have h:some ziQ=some it:=h
  cases h
  have e:G=400:=by simpa using e400'
  subst e
  refine⟨Tryz.call400,fun s hand yid l hp fa k hh hk hfa=>?_⟩
  have hy:=y400
  split at hy
  ·rename_i c hc
   unfold ziQ at hk
   rw[<- hy]at hk
   exact zbH zq ya (yP hlen) Tryz.func400 hc e400 s hand yid l hp fa k hh (zcq hlen hh) hk hfa
  ·rename_i hc
   exact absurd hc (by have : Tryz.f400.body.isSome = true := by kernel_rfl
                       intro hn;rw[hn]at this;cases this)
 | false=>
 rw[e400']at h
 cases e404':Nat.beq G 404 with
 | true=>
  rw[e404']at h
  have h:some ziP=some it:=h
  cases h
  have e:G=404:=by simpa using e404'
  subst e
  refine⟨Tryz.call404,fun s hand yid l hp fa k hh hk hfa=>?_⟩
  have hy:=y404
  split at hy
  ·rename_i c hc
   unfold ziP at hk
   rw[<- hy]at hk
   exact zbH zq ya (yP hlen) Tryz.func404 hc e404 s hand yid l hp fa k hh (zcq hlen hh) hk hfa
  ·rename_i hc
   exact absurd hc (by have : Tryz.f404.body.isSome = true := by kernel_rfl
                       intro hn;rw[hn]at this;cases this)
 | false=>
 rw[e404']at h
 cases h
def zo2:Hk:=zfD yc25 rs25 jX 25 20000 zcB
theorem zrv (hlen:jx E):zf E Tryz.prog (fun G l h fa k=>bc (Nat.beq G 25) (zo2 l h fa k) 1):=by
 have hy:=y25
 split at hy
 ·rename_i c hc
  unfold zo2
  rw[<- hy]
  exact zbG zq ya (yP hlen) (zaE hlen) Tryz.func25 Tryz.call25 hc e25
 ·rename_i hc
  exact absurd hc (by have : Tryz.f25.body.isSome = true := by kernel_rfl
                      intro hn;rw[hn]at this;cases this)
def zit:Hk:=zfD yc70 rs70 jX 70 20000 zcB
theorem zru (hlen:jx E):zf E Tryz.prog (fun G l h fa k=>bc (Nat.beq G 70) (zit l h fa k) 1):=by
 have hy:=y70
 split at hy
 ·rename_i c hc
  unfold zit
  rw[<- hy]
  exact zbG zq ya (yP hlen) (zaE hlen) Tryz.func70 Tryz.call70 hc e70
 ·rename_i hc
  exact absurd hc (by have : Tryz.f70.body.isSome = true := by kernel_rfl
                      intro hn;rw[hn]at this;cases this)
def zfE:Hk:=zfD yc79 rs79 jX 79 20000 zcB
theorem zrt (hlen:jx E):zf E Tryz.prog (fun G l h fa k=>bc (Nat.beq G 79) (zfE l h fa k) 1):=by
 have hy:=y79
 split at hy
 ·rename_i c hc
  unfold zfE
  rw[<- hy]
  exact zbG zq ya (yP hlen) (zaE hlen) Tryz.func79 Tryz.call79 hc e79
 ·rename_i hc
  exact absurd hc (by have : Tryz.f79.body.isSome = true := by kernel_rfl
                      intro hn;rw[hn]at this;cases this)
def zd9:Hk:=zfD yc83 rs83 jX 83 20000 zcB
theorem zrs (hlen:jx E):zf E Tryz.prog (fun G l h fa k=>bc (Nat.beq G 83) (zd9 l h fa k) 1):=by
 have hy:=y83
 split at hy
 ·rename_i c hc
  unfold zd9
  rw[<- hy]
  exact zbG zq ya (yP hlen) (zaE hlen) Tryz.func83 Tryz.call83 hc e83
 ·rename_i hc
  exact absurd hc (by have : Tryz.f83.body.isSome = true := by kernel_rfl
                      intro hn;rw[hn]at this;cases this)
def zbY:Hk:=zfD yc169 rs169 jX 169 20000 zcB
theorem zo3 (hlen:jx E):zf E Tryz.prog (fun G l h fa k=>bc (Nat.beq G 169) (zbY l h fa k) 1):=by
 have hy:=y169
 split at hy
 ·rename_i c hc
  unfold zbY
  rw[<- hy]
  exact zbG zq ya (yP hlen) (zaE hlen) Tryz.func169 Tryz.call169 hc e169
 ·rename_i hc
  exact absurd hc (by have : Tryz.f169.body.isSome = true := by kernel_rfl
                      intro hn;rw[hn]at this;cases this)
def zbz:Hk:=zfD yc294 rs294 jX 294 20000 zcB
theorem zo1 (hlen:jx E):zf E Tryz.prog (fun G l h fa k=>bc (Nat.beq G 294) (zbz l h fa k) 1):=by
 have hy:=y294
 split at hy
 ·rename_i c hc
  unfold zbz
  rw[<- hy]
  exact zbG zq ya (yP hlen) (zaE hlen) Tryz.func294 Tryz.call294 hc e294
 ·rename_i hc
  exact absurd hc (by have : Tryz.f294.body.isSome = true := by kernel_rfl
                      intro hn;rw[hn]at this;cases this)
def zbb:Hk:=zfD yc363 rs363 jX 363 20000 zcB
theorem zo0 (hlen:jx E):zf E Tryz.prog (fun G l h fa k=>bc (Nat.beq G 363) (zbb l h fa k) 1):=by
 have hy:=y363
 split at hy
 ·rename_i c hc
  unfold zbb
  rw[<- hy]
  exact zbG zq ya (yP hlen) (zaE hlen) Tryz.func363 Tryz.call363 hc e363
 ·rename_i hc
  exact absurd hc (by have : Tryz.f363.body.isSome = true := by kernel_rfl
                      intro hn;rw[hn]at this;cases this)
def zaX:Hk:=zfD yc376 rs376 jX 376 20000 zcB
theorem zoZ (hlen:jx E):zf E Tryz.prog (fun G l h fa k=>bc (Nat.beq G 376) (zaX l h fa k) 1):=by
 have hy:=y376
 split at hy
 ·rename_i c hc
  unfold zaX
  rw[<- hy]
  exact zbG zq ya (yP hlen) (zaE hlen) Tryz.func376 Tryz.call376 hc e376
 ·rename_i hc
  exact absurd hc (by have : Tryz.f376.body.isSome = true := by kernel_rfl
                      intro hn;rw[hn]at this;cases this)
def zaA:Hk:=zfD yc408 rs408 jX 408 20000 zcB
theorem zoY (hlen:jx E):zf E Tryz.prog (fun G l h fa k=>bc (Nat.beq G 408) (zaA l h fa k) 1):=by
 have hy:=y408
 split at hy
 ·rename_i c hc
  unfold zaA
  rw[<- hy]
  exact zbG zq ya (yP hlen) (zaE hlen) Tryz.func408 Tryz.call408 hc e408
 ·rename_i hc
  exact absurd hc (by have : Tryz.f408.body.isSome = true := by kernel_rfl
                      intro hn;rw[hn]at this;cases this)
def hkR0 (F:Nat):Option Hk:=(bc (Nat.beq F 25) (some zo2) (bc (Nat.beq F 70) (some zit) (bc (Nat.beq F 79) (some zfE) (bc (Nat.beq F 83) (some zd9) (bc (Nat.beq F 169) (some zbY) (bc (Nat.beq F 294) (some zbz) (bc (Nat.beq F 363) (some zbb) (bc (Nat.beq F 376) (some zaX) (bc (Nat.beq F 408) (some zaA) (zeS F))))))))))
theorem zqs (hlen:jx E):∀ F t,hkR0 F=some t->zf E Tryz.prog (fun G l h fa k=>bc (Nat.beq G F) (t l h fa k) 1):=yp (C:=fun F=>(bc (Nat.beq F 70) (some zit) (bc (Nat.beq F 79) (some zfE) (bc (Nat.beq F 83) (some zd9) (bc (Nat.beq F 169) (some zbY) (bc (Nat.beq F 294) (some zbz) (bc (Nat.beq F 363) (some zbb) (bc (Nat.beq F 376) (some zaX) (bc (Nat.beq F 408) (some zaA) (zeS F)))))))))) (zrv hlen) (yp (C:=fun F=>(bc (Nat.beq F 79) (some zfE) (bc (Nat.beq F 83) (some zd9) (bc (Nat.beq F 169) (some zbY) (bc (Nat.beq F 294) (some zbz) (bc (Nat.beq F 363) (some zbb) (bc (Nat.beq F 376) (some zaX) (bc (Nat.beq F 408) (some zaA) (zeS F))))))))) (zru hlen) (yp (C:=fun F=>(bc (Nat.beq F 83) (some zd9) (bc (Nat.beq F 169) (some zbY) (bc (Nat.beq F 294) (some zbz) (bc (Nat.beq F 363) (some zbb) (bc (Nat.beq F 376) (some zaX) (bc (Nat.beq F 408) (some zaA) (zeS F)))))))) (zrt hlen) (yp (C:=fun F=>(bc (Nat.beq F 169) (some zbY) (bc (Nat.beq F 294) (some zbz) (bc (Nat.beq F 363) (some zbb) (bc (Nat.beq F 376) (some zaX) (bc (Nat.beq F 408) (some zaA) (zeS F))))))) (zrs hlen) (yp (C:=fun F=>(bc (Nat.beq F 294) (some zbz) (bc (Nat.beq F 363) (some zbb) (bc (Nat.beq F 376) (some zaX) (bc (Nat.beq F 408) (some zaA) (zeS F)))))) (zo3 hlen) (yp (C:=fun F=>(bc (Nat.beq F 363) (some zbb) (bc (Nat.beq F 376) (some zaX) (bc (Nat.beq F 408) (some zaA) (zeS F))))) (zo1 hlen) (yp (C:=fun F=>(bc (Nat.beq F 376) (some zaX) (bc (Nat.beq F 408) (some zaA) (zeS F)))) (zo0 hlen) (yp (C:=fun F=>(bc (Nat.beq F 408) (some zaA) (zeS F))) (zoZ hlen) (yp (C:=fun F=>(zeS F)) (zoY hlen) (zqt hlen)))))))))
def cxR0:Cx:=⟨fnX,hkR0,20000⟩
def zb9:zD:=zeO cxR0 100
theorem cxR0_ok (hlen:jx E):CxOk E Tryz.prog (zp Tryz.prog) cxR0:=⟨zq,ya,fun F i h=>zdh h,zqs hlen⟩
theorem zav (hlen:jx E):zf E Tryz.prog zb9:=zaU (cxR0_ok hlen) 100
def zoK:zd0:=subT yc94 rs94 zb9 94 20000 zcw
def zoJ:zd0:=subT yc95 rs95 zb9 95 20000 zcw
def zfv (F:Nat):Option zd0:=(bc (Nat.beq F 94) (some zoK) (bc (Nat.beq F 95) (some zoJ) none))
theorem zcp (hlen:jx E) {s:LS} {yid:Ev.P} {hand:zeX} (hh:zc2 E Tryz.prog (zX E s yid) yid hand):SubA E Tryz.prog (zX E s yid) yid hand zfv:=by
 intro G t h
 unfold zfv at h
 cases e94':Nat.beq G 94 with
 | true=>
  rw[e94']at h
  have h:some zoK=some t:=h
  cases h
  have e:G=94:=by simpa using e94'
  subst e
  refine⟨Tryz.call94,fun l hp fa k hk hfa=>?_⟩
  have hy:=y94
  split at hy
  ·rename_i c hc
   unfold zoK at hk
   rw[<- hy]at hk
   exact zhN zq ya (zav hlen) Tryz.func94 hc e94 s hand yid l hp fa k hh zbm hk hfa
  ·rename_i hc
   exact absurd hc (by have : Tryz.f94.body.isSome = true := by kernel_rfl
                       intro hn;rw[hn]at this;cases this)
 | false=>
 rw[e94']at h
 cases e95':Nat.beq G 95 with
 | true=>
  rw[e95']at h
  have h:some zoJ=some t:=h
  cases h
  have e:G=95:=by simpa using e95'
  subst e
  refine⟨Tryz.call95,fun l hp fa k hk hfa=>?_⟩
  have hy:=y95
  split at hy
  ·rename_i c hc
   unfold zoJ at hk
   rw[<- hy]at hk
   exact zhN zq ya (zav hlen) Tryz.func95 hc e95 s hand yid l hp fa k hh zbm hk hfa
  ·rename_i hc
   exact absurd hc (by have : Tryz.f95.body.isSome = true := by kernel_rfl
                       intro hn;rw[hn]at this;cases this)
 | false=>
 rw[e95']at h
 cases h
def zph:zcn:=zfY yc91 zb9 91 20000 zfv
def ziO:zcn:=zfY yc231 zb9 231 20000 zfv
def ziN:zcn:=zfY yc240 zb9 240 20000 zfv
def ziM:zcn:=zfY yc400 zb9 400 20000 zfv
def ziL:zcn:=zfY yc404 zb9 404 20000 zfv
def itrX1 (F:Nat):Option zcn:=(bc (Nat.beq F 91) (some zph) (bc (Nat.beq F 231) (some ziO) (bc (Nat.beq F 240) (some ziN) (bc (Nat.beq F 400) (some ziM) (bc (Nat.beq F 404) (some ziL) none)))))
theorem zvT (hlen:jx E):zqO E Tryz.prog itrX1:=by
 intro G it h
 unfold itrX1 at h
 cases e91':Nat.beq G 91 with
 | true=>
  rw[e91']at h
  have h:some zph=some it:=h
  cases h
  have e:G=91:=by simpa using e91'
  subst e
  refine⟨Tryz.call91,fun s hand yid l hp fa k hh hk hfa=>?_⟩
  have hy:=y91
  split at hy
  ·rename_i c hc
   unfold zph at hk
   rw[<- hy]at hk
   exact zbH zq ya (zav hlen) Tryz.func91 hc e91 s hand yid l hp fa k hh (zcp hlen hh) hk hfa
  ·rename_i hc
   exact absurd hc (by have : Tryz.f91.body.isSome = true := by kernel_rfl
                       intro hn;rw[hn]at this;cases this)
 | false=>
 rw[e91']at h
 cases e231':Nat.beq G 231 with
 | true=>
  rw[e231']at h
  have h:some ziO=some it:=h
  cases h
  have e:G=231:=by simpa using e231'
  subst e
  refine⟨Tryz.call231,fun s hand yid l hp fa k hh hk hfa=>?_⟩
  have hy:=y231
  split at hy
  ·rename_i c hc
   unfold ziO at hk
   rw[<- hy]at hk
   exact zbH zq ya (zav hlen) Tryz.func231 hc e231 s hand yid l hp fa k hh (zcp hlen hh) hk hfa
  ·rename_i hc
   exact absurd hc (by have : Tryz.f231.body.isSome = true := by kernel_rfl
                       intro hn;rw[hn]at this;cases this)
 | false=>
 rw[e231']at h
 cases e240':Nat.beq G 240 with
 | true=>
  rw[e240']at h
  have h:some ziN=some it:=h
  cases h
  have e:G=240:=by simpa using e240'
  subst e
  refine⟨Tryz.call240,fun s hand yid l hp fa k hh hk hfa=>?_⟩
  have hy:=y240
  split at hy
  ·rename_i c hc
   unfold ziN at hk
   rw[<- hy]at hk
   exact zbH zq ya (zav hlen) Tryz.func240 hc e240 s hand yid l hp fa k hh (zcp hlen hh) hk hfa
  ·rename_i hc
   exact absurd hc (by have : Tryz.f240.body.isSome = true := by kernel_rfl
                       intro hn;rw[hn]at this;cases this)
 | false=>
 rw[e240']at h
 cases e400':Nat.beq G 400 with
 | true=>
  rw[e400']at h
  have h:some ziM=some it:=h
  cases h
  have e:G=400:=by simpa using e400'
  subst e
  refine⟨Tryz.call400,fun s hand yid l hp fa k hh hk hfa=>?_⟩
  have hy:=y400
  split at hy
  ·rename_i c hc
   unfold ziM at hk
   rw[<- hy]at hk
   exact zbH zq ya (zav hlen) Tryz.func400 hc e400 s hand yid l hp fa k hh (zcp hlen hh) hk hfa
  ·rename_i hc
   exact absurd hc (by have : Tryz.f400.body.isSome = true := by kernel_rfl
                       intro hn;rw[hn]at this;cases this)
 | false=>
 rw[e400']at h
 cases e404':Nat.beq G 404 with
 | true=>
  rw[e404']at h
  have h:some ziL=some it:=h
  cases h
  have e:G=404:=by simpa using e404'
  subst e
  refine⟨Tryz.call404,fun s hand yid l hp fa k hh hk hfa=>?_⟩
  have hy:=y404
  split at hy
  ·rename_i c hc
   unfold ziL at hk
   rw[<- hy]at hk
   exact zbH zq ya (zav hlen) Tryz.func404 hc e404 s hand yid l hp fa k hh (zcp hlen hh) hk hfa
  ·rename_i hc
   exact absurd hc (by have : Tryz.f404.body.isSome = true := by kernel_rfl
                       intro hn;rw[hn]at this;cases this)
 | false=>
 rw[e404']at h
 cases h
def zoX:Hk:=zfD yc82 rs82 zb9 82 20000 itrX1
theorem zrr (hlen:jx E):zf E Tryz.prog (fun G l h fa k=>bc (Nat.beq G 82) (zoX l h fa k) 1):=by
 have hy:=y82
 split at hy
 ·rename_i c hc
  unfold zoX
  rw[<- hy]
  exact zbG zq ya (zav hlen) (zvT hlen) Tryz.func82 Tryz.call82 hc e82
 ·rename_i hc
  exact absurd hc (by have : Tryz.f82.body.isSome = true := by kernel_rfl
                      intro hn;rw[hn]at this;cases this)
def hkR1 (F:Nat):Option Hk:=(bc (Nat.beq F 82) (some zoX) (hkR0 F))
theorem zqr (hlen:jx E):∀ F t,hkR1 F=some t->zf E Tryz.prog (fun G l h fa k=>bc (Nat.beq G F) (t l h fa k) 1):=yp (C:=fun F=>(hkR0 F)) (zrr hlen) (zqs hlen)
def cxR1:Cx:=⟨fnX,hkR1,20000⟩
def zpB:zD:=zeO cxR1 100
theorem zqF (hlen:jx E):CxOk E Tryz.prog (zp Tryz.prog) cxR1:=⟨zq,ya,fun F i h=>zdh h,zqr hlen⟩
theorem zhz (hlen:jx E):zf E Tryz.prog zpB:=zaU (zqF hlen) 100
def df9:Hk:=dfnT x9.body x9.res zpB (dcallT cxR1 zpB) 9 20000
def hk1 (F:Nat):Option Hk:=(bc (Nat.beq F 9) (some df9) (hkR1 F))
theorem hk1_ok (hlen:jx E):∀ F t,hk1 F=some t->zf E Tryz.prog (fun G l h fa k=>bc (Nat.beq G F) (t l h fa k) 1):=yp (C:=fun F=>(hkR1 F)) (dfn_ok zq ya (zhz hlen) (zrN (zqF hlen) (zhz hlen)) Tryz.func9 Tryz.call9 cx9 (drB wx9)) (zqr hlen)
def cx1:Cx:=⟨fnX,hk1,20000⟩
def zc:zD:=zeO cx1 100
theorem zer (hlen:jx E):CxOk E Tryz.prog (zp Tryz.prog) cx1:=⟨zq,ya,fun F i h=>zdh h,hk1_ok hlen⟩
theorem zbw (hlen:jx E):zf E Tryz.prog zc:=zaU (zer hlen) 100
end Go.Ev.X
end
