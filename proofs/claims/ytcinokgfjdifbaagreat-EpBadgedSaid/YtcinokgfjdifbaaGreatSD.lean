import Derived.Test.YtcinokgfjdifbaaGreatSC
import Derived.Test.YtcinokgfjdifbaaGreatE4
import Derived.Test.YtcinokgfjdifbaaGreatSS0
set_option linter.unusedSimpArgs false
set_option linter.unusedVariables false
set_option maxRecDepth 100000
noncomputable section
namespace Go.Ev.X
open Go Go.Ev Go.Proofs
def smT13:Tr (List Sm):=(.node (.node (.node (.node (.node (.node (.node (.node (.node (.node (.node .nil (.node (.node (.leaf zlZ) .nil) .nil)) .nil) .nil) .nil) (.node (.node (.node (.node .nil (.node (.node (.leaf zlX) .nil) .nil)) .nil) .nil) .nil)) .nil) .nil) .nil) .nil) .nil) .nil)
theorem zrT:TrP (zcn mc13 13 zN) smT13:=⟨⟨⟨⟨⟨⟨⟨⟨⟨⟨⟨trivial,⟨⟨(zaF zlY),trivial⟩,trivial⟩⟩,trivial⟩,trivial⟩,trivial⟩,⟨⟨⟨⟨trivial,⟨⟨(zaF zlW),trivial⟩,trivial⟩⟩,trivial⟩,trivial⟩,trivial⟩⟩,trivial⟩,trivial⟩,trivial⟩,trivial⟩,trivial⟩,trivial⟩
def sm13:List V->H->Fa->K->Nat:=zcq mc13 (ssT smT13) 13 zN
def smT15:Tr (List Sm):=(.node (.node (.node (.node (.node .nil (.node .nil (.node (.node (.node (.node (.node .nil (.node .nil (.node (.leaf zlV) .nil))) .nil) .nil) .nil) .nil))) .nil) .nil) .nil) .nil)
theorem zrS:TrP (zcn mc15 15 zN) smT15:=⟨⟨⟨⟨⟨trivial,⟨trivial,⟨⟨⟨⟨⟨trivial,⟨trivial,⟨(zaF zlU),trivial⟩⟩⟩,trivial⟩,trivial⟩,trivial⟩,trivial⟩⟩⟩,trivial⟩,trivial⟩,trivial⟩,trivial⟩
def sm15:List V->H->Fa->K->Nat:=zcq mc15 (ssT smT15) 15 zN
def smT38:Tr (List Sm):=(.node (.node (.node (.node .nil (.node (.node (.node (.node (.node (.node (.node (.node (.node (.leaf s38_8) .nil) .nil) .nil) .nil) .nil) .nil) .nil) .nil) .nil)) (.node (.node (.node (.node (.node (.node (.node (.node (.node (.node (.leaf s38_4) .nil) .nil) .nil) .nil) .nil) .nil) .nil) .nil) .nil) .nil)) (.node (.node .nil (.node (.node (.node (.node (.node .nil (.node (.node (.node (.node (.leaf zoR) .nil) .nil) .nil) .nil)) .nil) .nil) .nil) .nil)) .nil)) (.node (.node (.node (.node (.node (.node (.node (.node (.node (.node (.node (.node (.leaf s38_1) .nil) .nil) .nil) .nil) .nil) .nil) .nil) .nil) .nil) .nil) .nil) .nil))
theorem zrR:TrP (zcn mc38 38 zN) smT38:=⟨⟨⟨⟨trivial,⟨⟨⟨⟨⟨⟨⟨⟨⟨(zaF zr7),trivial⟩,trivial⟩,trivial⟩,trivial⟩,trivial⟩,trivial⟩,trivial⟩,trivial⟩,trivial⟩⟩,⟨⟨⟨⟨⟨⟨⟨⟨⟨⟨(zaF zr8),trivial⟩,trivial⟩,trivial⟩,trivial⟩,trivial⟩,trivial⟩,trivial⟩,trivial⟩,trivial⟩,trivial⟩⟩,⟨⟨trivial,⟨⟨⟨⟨⟨trivial,⟨⟨⟨⟨(zaF znM),trivial⟩,trivial⟩,trivial⟩,trivial⟩⟩,trivial⟩,trivial⟩,trivial⟩,trivial⟩⟩,trivial⟩⟩,⟨⟨⟨⟨⟨⟨⟨⟨⟨⟨⟨⟨(zaF zr9),trivial⟩,trivial⟩,trivial⟩,trivial⟩,trivial⟩,trivial⟩,trivial⟩,trivial⟩,trivial⟩,trivial⟩,trivial⟩,trivial⟩⟩
def sm38:List V->H->Fa->K->Nat:=zcq mc38 (ssT smT38) 38 zN
def smT59:Tr (List Sm):=(.node (.node (.node (.node (.node (.node (.node (.node (.node (.node (.node .nil (.node (.node (.leaf zlT) .nil) .nil)) .nil) .nil) .nil) (.node (.node (.node (.node .nil (.node (.node (.leaf zlR) .nil) .nil)) .nil) .nil) .nil)) .nil) .nil) .nil) .nil) .nil) .nil)
theorem zrQ:TrP (zcn mc59 59 zN) smT59:=⟨⟨⟨⟨⟨⟨⟨⟨⟨⟨⟨trivial,⟨⟨(zaF zlS),trivial⟩,trivial⟩⟩,trivial⟩,trivial⟩,trivial⟩,⟨⟨⟨⟨trivial,⟨⟨(zaF zlQ),trivial⟩,trivial⟩⟩,trivial⟩,trivial⟩,trivial⟩⟩,trivial⟩,trivial⟩,trivial⟩,trivial⟩,trivial⟩,trivial⟩
def sm59:List V->H->Fa->K->Nat:=zcq mc59 (ssT smT59) 59 zN
def smT82:Tr (List Sm):=(.node (.node (.node (.node (.node .nil (.node .nil (.node (.node (.node (.node (.node .nil (.node .nil (.node (.leaf zlP) .nil))) .nil) .nil) .nil) .nil))) .nil) .nil) .nil) .nil)
theorem zrP:TrP (zcn mc82 82 zN) smT82:=⟨⟨⟨⟨⟨trivial,⟨trivial,⟨⟨⟨⟨⟨trivial,⟨trivial,⟨(zaF zlO),trivial⟩⟩⟩,trivial⟩,trivial⟩,trivial⟩,trivial⟩⟩⟩,trivial⟩,trivial⟩,trivial⟩,trivial⟩
def sm82:List V->H->Fa->K->Nat:=zcq mc82 (ssT smT82) 82 zN
def smT88:Tr (List Sm):=(.node (.node (.node (.node .nil (.node (.node (.node (.node (.node (.node (.node (.node (.node (.leaf s88_8) .nil) .nil) .nil) .nil) .nil) .nil) .nil) .nil) .nil)) (.node (.node (.node (.node (.node (.node (.node (.node (.node (.node (.leaf s88_4) .nil) .nil) .nil) .nil) .nil) .nil) .nil) .nil) .nil) .nil)) (.node (.node .nil (.node (.node (.node (.node (.node .nil (.node (.node (.node (.node (.leaf zoQ) .nil) .nil) .nil) .nil)) .nil) .nil) .nil) .nil)) .nil)) .nil)
theorem zrO:TrP (zcn mc88 88 zN) smT88:=⟨⟨⟨⟨trivial,⟨⟨⟨⟨⟨⟨⟨⟨⟨(zaF zr5),trivial⟩,trivial⟩,trivial⟩,trivial⟩,trivial⟩,trivial⟩,trivial⟩,trivial⟩,trivial⟩⟩,⟨⟨⟨⟨⟨⟨⟨⟨⟨⟨(zaF zr6),trivial⟩,trivial⟩,trivial⟩,trivial⟩,trivial⟩,trivial⟩,trivial⟩,trivial⟩,trivial⟩,trivial⟩⟩,⟨⟨trivial,⟨⟨⟨⟨⟨trivial,⟨⟨⟨⟨(zaF znL),trivial⟩,trivial⟩,trivial⟩,trivial⟩⟩,trivial⟩,trivial⟩,trivial⟩,trivial⟩⟩,trivial⟩⟩,trivial⟩
def sm88:List V->H->Fa->K->Nat:=zcq mc88 (ssT smT88) 88 zN
def smX (F:Nat):Option (List V->H->Fa->K->Nat):=(bc (Nat.beq F 13) (some sm13) (bc (Nat.beq F 15) (some sm15) (bc (Nat.beq F 38) (some sm38) (bc (Nat.beq F 59) (some sm59) (bc (Nat.beq F 82) (some sm82) (bc (Nat.beq F 88) (some sm88) none))))))
def cxS:Cx:=⟨fnX,fun F=>bc (Nat.beq F 135) (some lenX) (smX F),20000⟩
def zov:z3:=zaM cxS 100
def it77:zlg:=itrT yc77 zov 77 20000
def itrX (F:Nat):Option zlg:=(bc (Nat.beq F 77) (some it77) none)
def rf10:List V->H->Fa->K->Nat:=rfnT yc10 rs10 zov 10 20000 itrX
def cx1:Cx:=⟨fnX,fun F=>bc (Nat.beq F 135) (some lenX) (bc (Nat.beq F 10) (some rf10) (smX F)),20000⟩
def zga:z3:=zaM cx1 100
theorem y77:(match Tryz.f77.body with | some c=>yT (zX Tryz.prog) Tryz.f77.ntmps c true | none=>.bad)=yc77:=by kernel_rfl
theorem y10:(match Tryz.f10.body with | some c=>yT (zX Tryz.prog) Tryz.f10.ntmps c true | none=>.bad)=yc10:=by kernel_rfl
theorem e77:Tryz.f77.results.toList=[]:=by kernel_rfl
theorem e10:zgk (zX Tryz.prog) Tryz.f10.results.toList=some rs10:=by kernel_rfl
variable {E:Env}
def zpL (E:Env):Prop:=zk E Tryz.prog (fun G l h fa k=>bc (Nat.beq G 135) (lenX l h fa k) 1)
def ziQ (E:Env):Prop:=∀ E':Env,(∀ q,q≠7->E'.s q=E.s q)->zpL E'
theorem ziQ.one (h:ziQ E):zpL E:=h E (fun _ _=>rfl)
theorem zbt {C:Nat->Option (List V->H->Fa->K->Nat)} {a:Nat} {s:List V->H->Fa->K->Nat} (hs:zk E Tryz.prog (fun G l h fa k=>bc (Nat.beq G a) (s l h fa k) 1))
  (hC:∀ F t,C F=some t->zk E Tryz.prog (fun G l h fa k=>bc (Nat.beq G F) (t l h fa k) 1)):∀ F t,bc (Nat.beq F a) (some s) (C F)=some t->zk E Tryz.prog (fun G l h fa k=>bc (Nat.beq G F) (t l h fa k) 1):=by
 intro F t h
 cases e:Nat.beq F a with
 | true=>
  rw[e]at h
  have h:some s=some t:=h
  cases h
  have e:F=a:=by simpa using e
  subst e
  exact hs
 | false=>rw[e]at h;exact hC F t h
theorem zmD:∀ F t,(none:Option (List V->H->Fa->K->Nat))=some t->zk E Tryz.prog (fun G l h fa k=>bc (Nat.beq G F) (t l h fa k) 1):=fun F t h=>by cases h
theorem cx0_ok (hlen:zpL E):CxOk E Tryz.prog (zX Tryz.prog) cx0:=⟨zaX,zkB,fun F i h=>zok h,zbt (C:=fun _=>none) hlen zmD⟩
theorem zcf (hlen:zpL E):zk E Tryz.prog zN:=jq (cx0_ok hlen) 100
theorem smX_ok (hlen:ziQ E):∀ F t,smX F=some t->zk E Tryz.prog (fun G l h fa k=>bc (Nat.beq G F) (t l h fa k) 1):=zbt (C:=fun F=>(bc (Nat.beq F 15) (some sm15) (bc (Nat.beq F 38) (some sm38) (bc (Nat.beq F 59) (some sm59) (bc (Nat.beq F 82) (some sm82) (bc (Nat.beq F 88) (some sm88) none)))))) (ziW (fun E' h=>zcf (hlen E' h)) zrT) (zbt (C:=fun F=>(bc (Nat.beq F 38) (some sm38) (bc (Nat.beq F 59) (some sm59) (bc (Nat.beq F 82) (some sm82) (bc (Nat.beq F 88) (some sm88) none))))) (ziW (fun E' h=>zcf (hlen E' h)) zrS) (zbt (C:=fun F=>(bc (Nat.beq F 59) (some sm59) (bc (Nat.beq F 82) (some sm82) (bc (Nat.beq F 88) (some sm88) none)))) (ziW (fun E' h=>zcf (hlen E' h)) zrR) (zbt (C:=fun F=>(bc (Nat.beq F 82) (some sm82) (bc (Nat.beq F 88) (some sm88) none))) (ziW (fun E' h=>zcf (hlen E' h)) zrQ) (zbt (C:=fun F=>(bc (Nat.beq F 88) (some sm88) none)) (ziW (fun E' h=>zcf (hlen E' h)) zrP) (zbt (C:=fun F=>none) (ziW (fun E' h=>zcf (hlen E' h)) zrO) (zmD))))))
theorem cxS_ok (hlen:ziQ E):CxOk E Tryz.prog (zX Tryz.prog) cxS:=⟨zaX,zkB,fun F i h=>zok h,zbt (C:=smX) hlen.one (smX_ok hlen)⟩
theorem zjz (hlen:ziQ E):zk E Tryz.prog zov:=jq (cxS_ok hlen) 100
theorem itrX_ok (hlen:ziQ E):zpN E Tryz.prog itrX:=by
 intro G it h
 unfold itrX at h
 cases e77':Nat.beq G 77 with
 | true=>
  rw[e77']at h
  have h:some it77=some it:=h
  cases h
  have e:G=77:=by simpa using e77'
  subst e
  refine⟨Tryz.call77,fun s hand l h fa k hh hk hfa=>?_⟩
  have hy:=y77
  split at hy
  ·rename_i c hc
   unfold it77 at hk
   rw[<- hy]at hk
   exact itr_ok zaX (zjz hlen) Tryz.func77 hc e77 s hand l h fa k hh hk hfa
  ·rename_i hc
   exact absurd hc (by have : Tryz.f77.body.isSome = true := by kernel_rfl
                       intro hn;rw[hn]at this;cases this)
 | false=>
 rw[e77']at h
 cases h
theorem rf10_ok (hlen:ziQ E):zk E Tryz.prog (fun G l h fa k=>bc (Nat.beq G 10) (rf10 l h fa k) 1):=by
 have hy:=y10
 split at hy
 ·rename_i c hc
  unfold rf10
  rw[<- hy]
  exact rfn_ok zaX (zjz hlen) (itrX_ok hlen) Tryz.func10 Tryz.call10 hc e10
 ·rename_i hc
  exact absurd hc (by have : Tryz.f10.body.isSome = true := by kernel_rfl
                      intro hn;rw[hn]at this;cases this)
theorem cx1_ok (hlen:ziQ E):CxOk E Tryz.prog (zX Tryz.prog) cx1:=⟨zaX,zkB,fun F i h=>zok h,zbt (C:=fun F=>bc (Nat.beq F 10) (some rf10) ((smX) F)) hlen.one (zbt (C:=smX) (rf10_ok hlen) (smX_ok hlen))⟩
theorem zdH (hlen:ziQ E):zk E Tryz.prog zga:=jq (cx1_ok hlen) 100
end Go.Ev.X
end
