import Derived.Test.YtcinokgfjdifbaaGreatJCp
import Derived.Test.YtcinokgfjdifbaaGreatE7
set_option linter.unusedSimpArgs false
set_option linter.unusedVariables false
set_option maxRecDepth 100000
noncomputable section
namespace Go.Ev.X
open Go Go.Ev Go.Proofs
variable {E:Env} {f:Nat->Int} {t e:Nat} {L:Nat->List Nat} {Q:Nat->List Nat} {P:Nat->TV} {c:Nat} {S:Nat->Int}
def z0:V:=.i .i64 0
def shLa (a b:Bool):List Sh:=bif a then [] else [rdT 13 (sv 104) 300,zey 59 (sv 104) (tX 300 (sv 300) (tv 303) (sv 304) (bif b then z0 else sv 105) (sv 306) (sv 307) (tv 308) (tv 309) (sv 312))]
def shLb (a b:Bool):List Sh:=bif b then [] else [rdT 13 (sv 105) 400,zey 59 (sv 105) (tX 400 (sv 400) (tv 403) (bif a then z0 else sv 104) (sv 405) (sv 406) (sv 407) (tv 408) (tv 409) (sv 412))]
def clr (b:Nat):V:=tX b z0 (tv (b+3)) z0 z0 z0 z0 (.b false) (.b false) (sv (b+12))
def shLw (a b:Bool):List Sh:=[wrQS 82 (sv 106) (bif a && b then z0 else sv 200) (bif a then (bif b then z0 else sv 105) else sv 201) (bif b then (bif a then z0 else sv 104) else sv 202),zey 59 vt (clr 100)]
def shL (a b:Bool):List Sh:=rdT 13 vt 100::zcr 15 (sv 106) 200::(shLa a b ++ (shLb a b ++ shLw a b))
def fsSt (s:Nat):List (SB × Bool):=match s with
 | 1=>[(.cmp .eql (.v 100) (.lit 2),true)]
 | _=>[(.cmp .eql (.v 100) (.lit 2),false),(.cmp .eql (.v 100) (.lit 3),true)]
def fsL (s:Nat) (a b:Bool):List (SB × Bool):=fsSt s ++ ((.cmp .eql (.v 104) (.lit 0),a)::(.cmp .eql (.v 105) (.lit 0),b)::(bif a then [] else [(.cmp .eql (.v 201) (.lit 0),false)]))
def runLv (s:Nat) (a b:Bool):Nat:=zea cx0 cP (shL a b) [] 21 [vt] (fsL s a b) (.tup [])
theorem zsa:zW (fun s=>zW (fun a=>zW (fun b=>Nat.beq (runLv s a b) 0) zbE) zbE) (zb1 1 2)=true:=by decide +kernel
def fsNo:List (SB × Bool):=[(.cmp .eql (.v 100) (.lit 2),false),(.cmp .eql (.v 100) (.lit 3),false)]
theorem zsb:zea cx0 cP [rdT 13 vt 100] [] 21 [vt] fsNo (.tup [])=0:=by decide +kernel
def vsL (t:Nat) (v:TV) (r:Nat->Int) (w:Int) (v3:TV) (r3:Nat->Int) (v4:TV) (r4:Nat->Int):Nat->Int:=fun i=>match i / 100 with
 | 0=>(t:Int)
 | 1=>ym v r (i % 100)
 | 2=>if i=200 then stQ w else if i=201 then hdQ w else tlQ w
 | 3=>ym v3 r3 (i % 100)
 | 4=>ym v4 r4 (i % 100)
 | _=>0
theorem tlL1 {v v3 v4:TV} {r r3 r4:Nat->Int} {w:Int}:TlB (vsL t v r w v3 r3 v4 r4) 100 v r:=⟨by omega,by omega,fun j hj=>by
 unfold vsL
 rw[show (100+j) / 100=1 from by omega,show (100+j) % 100=j from by omega]
 rfl⟩
theorem tlL3 {v v3 v4:TV} {r r3 r4:Nat->Int} {w:Int}:TlB (vsL t v r w v3 r3 v4 r4) 300 v3 r3:=⟨by omega,by omega,fun j hj=>by
 unfold vsL
 rw[show (300+j) / 100=3 from by omega,show (300+j) % 100=j from by omega]
 rfl⟩
theorem tlL4 {v v3 v4:TV} {r r3 r4:Nat->Int} {w:Int}:TlB (vsL t v r w v3 r3 v4 r4) 400 v4 r4:=⟨by omega,by omega,fun j hj=>by
 unfold vsL
 rw[show (400+j) / 100=4 from by omega,show (400+j) % 100=j from by omega]
 rfl⟩
theorem clr_ok {vs:Nat->Int} {b:Nat} {v:TV} {r:Nat->Int} (h:TlB vs b v r) (hE:AgV E vs) (ρ:Rho):(clr b).γ E ρ=thV (zbr v) r:=
 zc7 (w:=zbr v) h hE rfl (vsb (sbq (z4 h hE (j:=3) (by omega)))) rfl rfl rfl rfl rfl rfl (vsi (z4 h hE (j:=12) (by omega))) rfl rfl rfl rfl rfl
structure Nb (f:Nat->Int) (L:Nat->List Nat) (e t y x:Nat):Prop where
 pv:(za f t).pv=(y:Nat)
 nx:(za f t).nx=(x:Nat)
 y:y≠0->y∈L e/\y≠t/\y≠x
 x:x≠0->x∈L e/\x≠t
theorem nb_of (h:EInv T4 EpA f Q P c L S) (he:EpA e) {a b:List Nat} (hab:L e=a ++ t::b):∃ y x,laN a 0=y/\hdN b 0=x/\(y=0 ↔ a=[])/\(x=0 ↔ b=[])/\Nb f L e t y x:=by
 have hnd:=h.nd e he
 have hlk:=h.lk e he
 rw[hab]at hnd hlk
 obtain⟨na,nb,nab⟩:=List.nodup_append.1 hnd
 have nb':=List.nodup_cons.1 nb
 obtain⟨lka,epv,enx,lkb⟩:=j5.1 hlk
 have hlt:=zag z5 h he
 have ma:∀ u,u∈a->u∈L e:=fun u hu=>by rw[hab];simp[hu]
 have mb:∀ u,u∈b->u∈L e:=fun u hu=>by rw[hab];simp[hu]
 have h1:laN a 0=0 ↔ a=[]:=by
  constructor
  ·intro e0
   by_cases e2:a=[]
   ·exact e2
   ·have:=hlt _ (ma _ (zu (p:=0) e2));omega
  ·intro e0;rw[e0];rfl
 have h2:hdN b 0=0 ↔ b=[]:=by
  constructor
  ·intro e0
   by_cases e2:b=[]
   ·exact e2
   ·have:=hlt _ (mb _ (zw (n:=0) e2));omega
  ·intro e0;rw[e0];rfl
 refine⟨_,_,rfl,rfl,h1,h2,epv,enx,fun h0=>?_,fun h0=>?_⟩
 ·have hm:=zu (p:=0) fun e2=>h0 (h1.2 e2)
  refine⟨ma _ hm,fun e2=>nab _ hm t (by simp) e2,fun e2=>?_⟩
  have hx:hdN b 0≠0:=e2 ▸ h0
  exact nab _ hm (hdN b 0) (List.mem_cons_of_mem _ (zw fun e3=>hx (h2.2 e3))) e2
 ·have hm:=zw (n:=0) fun e2=>h0 (h2.2 e2)
  exact⟨mb _ hm,fun e2=>nb'.1 (e2 ▸ hm)⟩
theorem zpd (h:EInv T4 EpA f Q P c L S) (he:EpA e) {a b:List Nat} (hab:L e=a ++ t::b):zJ PP cP 21 [.int .i64 t] f (.tuple #[]) (yX f e t):=by
 obtain⟨y,x,hy,hx,hy0,hx0,nb⟩:=nb_of h he hab
 have htm:t∈L e:=by rw[hab];simp
 obtain⟨hT,hrt,hct,hqt,hbl,hst⟩:=h.w e t he htm
 obtain⟨w1,w2,w3,w4,w5⟩:=jB z5 h he
 rw[if_neg (by rw[hab];simp)]at w1
 have hSe:=h.s e he
 have hlt:=zag z5 h he
 have hbl':(za f t).bl=(e:Int):=by rw[<- hbl,<- hct];rfl
 have hst':(za f t).st=S e+1:=by rw[<- hst,<- hct];rfl
 have Ty:y≠0->T4 y/\RightAt f y:=fun h0=>by
  obtain⟨a1,a2,_⟩:=h.w e y he (nb.y h0).1;exact⟨a1,a2⟩
 have Tx:x≠0->T4 x/\RightAt f x:=fun h0=>by
  obtain⟨a1,a2,_⟩:=h.w e x he (nb.x h0).1;exact⟨a1,a2⟩
 have yl:y<65536:=by
  by_cases e0:y=0
  ·omega
  ·have:=hlt y (nb.y e0).1;omega
 have xl:x<65536:=by
  by_cases e0:x=0
  ·omega
  ·have:=hlt x (nb.x e0).1;omega
 have l1:jh f t=if y=0 then f else zg f y { za f y with nx:=(x:Nat) }:=by
  unfold jh
  rw[nb.pv,nb.nx,Int.toNat_natCast]
  by_cases e0:y=0
  ·rw[if_pos (by omega),if_pos e0]
  ·rw[if_neg (by omega),if_neg e0]
 have l2:zbz f t=if x=0 then jh f t else zg (jh f t) x { za (jh f t) x with pv:=(y:Nat) }:=by
  unfold zbz
  rw[nb.pv,nb.nx,Int.toNat_natCast]
  by_cases e0:x=0
  ·rw[if_pos (by omega),if_pos e0]
  ·rw[if_neg (by omega),if_neg e0]
 have ra1:zcv f (jh f t):=by
  rw[l1]
  split
  ·exact zbo f
  ·rename_i e0;exact znP (zbo f) (Ty e0).1 _
 have ra2:zcv f (zbz f t):=by
  rw[l2]
  split
  ·exact ra1
  ·rename_i e0;exact znP ra1 (Tx e0).1 _
 obtain⟨vs,hvs⟩:∃ vs,vs=vsL t (za f t) (zp f t) (f e) (za f y) (zp f y) (za (jh f t) x) (zp (jh f t) x):=⟨_,rfl⟩
 have tl1:TlB vs 100 (za f t) (zp f t):=by rw[hvs];exact tlL1
 have tl3:TlB vs 300 (za f y) (zp f y):=by rw[hvs];exact tlL3
 have tl4:TlB vs 400 (za (jh f t) x) (zp (jh f t) x):=by rw[hvs];exact tlL4
 have a1:∀ E,AgV E vs->∀ ρ,vt.γ E ρ=.int .i64 t:=zaE (by omega) (by omega) (by rw[hvs];rfl)
 have a106:∀ E,AgV E vs->∀ ρ,(sv 106).γ E ρ=.int .i64 e:=zaE (by omega) (by omega) ((tl1.2.2 6 (by omega)).trans hbl')
 have a104:∀ E,AgV E vs->∀ ρ,(sv 104).γ E ρ=.int .i64 (y:Nat):=zaE (by omega) (by omega) ((tl1.2.2 4 (by omega)).trans nb.pv)
 have a105:∀ E,AgV E vs->∀ ρ,(sv 105).γ E ρ=.int .i64 (x:Nat):=zaE (by omega) (by omega) ((tl1.2.2 5 (by omega)).trans nb.nx)
 have v200:vs 200=S e:=by rw[hvs,<- w1];rfl
 have v201:vs 201=(hdN (L e) 0:Nat):=by rw[hvs,<- w2];rfl
 have v202:vs 202=(laN (L e) 0:Nat):=by rw[hvs,<- w3];rfl
 obtain⟨ba,hba⟩:∃ ba,ba=decide (y=0):=⟨_,rfl⟩
 obtain⟨bb,hbb⟩:∃ bb,bb=decide (x=0):=⟨_,rfl⟩
 have chA:Chn cP vs (shLa ba bb) f (jh f t):=by
  rw[l1,hba]
  by_cases e0:y=0
  ·rw[decide_eq_true e0,if_pos e0]
   exact z7 f
  ·rw[decide_eq_false e0,if_neg e0]
   obtain⟨t1,t2⟩:=Ty e0
   have hv:TV.Right { za f y with nx:=((x:Nat):Int) }:=zeO (zh t2) (by omega)
   refine zaJ yJ t1 t2 a104 tl3 (zdF yJ t1 hv (zbo f) a104 (fun E hE ρ=>?_) (z7 _))
   refine zc7 (w:={ za f y with nx:=((x:Nat):Int) }) tl3 hE (vsi (z4 tl3 hE (j:=0) (by omega))) (vsb (sbq (z4 tl3 hE (j:=3) (by omega)))) (vsi (z4 tl3 hE (j:=4) (by omega))) ?_ (vsi (z4 tl3 hE (j:=6) (by omega))) (vsi (z4 tl3 hE (j:=7) (by omega))) (vsb (sbq (z4 tl3 hE (j:=8) (by omega)))) (vsb (sbq (z4 tl3 hE (j:=9) (by omega)))) (vsi (z4 tl3 hE (j:=12) (by omega))) rfl rfl rfl rfl rfl
   by_cases e1:x=0
   ·rw[hbb,decide_eq_true e1,e1];rfl
   ·rw[hbb,decide_eq_false e1];exact a105 E hE ρ
 have chB:Chn cP vs (shLb ba bb) (jh f t) (zbz f t):=by
  rw[l2,hbb]
  by_cases e0:x=0
  ·rw[decide_eq_true e0,if_pos e0]
   exact z7 _
  ·rw[decide_eq_false e0,if_neg e0]
   obtain⟨t1,t2⟩:=Tx e0
   have hr1:RightAt (jh f t) x:=by
    rw[l1]
    split
    ·exact t2
    ·rename_i e1;exact yh (zpJ (Ty e1).1 t1 (nb.y e1).2.2) t2
   have hv:TV.Right { za (jh f t) x with pv:=((y:Nat):Int) }:=zl2 (zh hr1) (by omega)
   refine zaJ yJ t1 hr1 a105 tl4 (zdF yJ t1 hv (zbo _) a105 (fun E hE ρ=>?_) (z7 _))
   refine zc7 (w:={ za (jh f t) x with pv:=((y:Nat):Int) }) tl4 hE (vsi (z4 tl4 hE (j:=0) (by omega))) (vsb (sbq (z4 tl4 hE (j:=3) (by omega)))) ?_ (vsi (z4 tl4 hE (j:=5) (by omega))) (vsi (z4 tl4 hE (j:=6) (by omega))) (vsi (z4 tl4 hE (j:=7) (by omega))) (vsb (sbq (z4 tl4 hE (j:=8) (by omega)))) (vsb (sbq (z4 tl4 hE (j:=9) (by omega)))) (vsi (z4 tl4 hE (j:=12) (by omega))) rfl rfl rfl rfl rfl
   by_cases e1:y=0
   ·rw[hba,decide_eq_true e1,e1];rfl
   ·rw[hba,decide_eq_false e1];exact a104 E hE ρ
 have hH:zf2 f e t=if y=0 then (x:Int) else (hdN (L e) 0:Nat):=by
  unfold zf2
  rw[nb.pv,nb.nx,w2]
  by_cases e0:y=0
  ·rw[if_pos (by omega),if_pos e0]
  ·rw[if_neg (by omega),if_neg e0]
 have hTl:zje f e t=if x=0 then (y:Int) else (laN (L e) 0:Nat):=by
  unfold zje
  rw[nb.pv,nb.nx,w3]
  by_cases e0:x=0
  ·rw[if_pos (by omega),if_pos e0]
  ·rw[if_neg (by omega),if_neg e0]
 have hne:L e≠[]:=by rw[hab];simp
 have hhd:=hlt _ (zw (n:=0) hne)
 have hla:=hlt _ (zu (p:=0) hne)
 have chW:Chn cP vs (shLw ba bb) (zbz f t) (yX f e t):=by
  unfold yX zpe
  have fit:QFit (if zf2 f e t=0 then 0 else stQ (f e)) (zf2 f e t) (zje f e t):=by
   rw[hH,hTl,w1]
   by_cases e0:y=0
   ·by_cases e1:x=0
    ·rw[if_pos e0,if_pos e1,e1,e0];exact .inl ⟨if_pos rfl,rfl,rfl⟩
    ·have:=hlt x (nb.x e1).1
     rw[if_pos e0,if_neg e1,if_neg (by omega)]
     exact .inr ⟨hSe,by omega,by omega⟩
   ·have:=hlt y (nb.y e0).1
    rw[if_neg e0,if_neg (by omega)]
    by_cases e1:x=0
    ·rw[if_pos e1];exact .inr ⟨hSe,by omega,by omega⟩
    ·rw[if_neg e1];exact .inr ⟨hSe,by omega,by omega⟩
  refine zjy yJ he fit a106 (fun E hE ρ=>?_) (fun E hE ρ=>?_) (fun E hE ρ=>?_) (zdF yJ hT (zdo (zh hrt)) (ra_upd ra2 he _) a1 (fun E hE ρ=>clr_ok tl1 hE ρ) (z7 _))
  ·rw[hH,w1,hba,hbb]
   by_cases e0:y=0
   ·by_cases e1:x=0
    ·rw[decide_eq_true e0,decide_eq_true e1,if_pos e0,e1];rfl
    ·rw[decide_eq_true e0,decide_eq_false e1,if_pos e0,if_neg (by omega)]
     exact vsi ((hE 200 (by omega) (by omega)).trans v200)
   ·rw[decide_eq_false e0,if_neg e0,if_neg (by omega)]
    exact vsi ((hE 200 (by omega) (by omega)).trans v200)
  ·rw[hH,hba,hbb]
   by_cases e0:y=0
   ·by_cases e1:x=0
    ·rw[decide_eq_true e0,decide_eq_true e1,if_pos e0,e1];rfl
    ·rw[decide_eq_true e0,decide_eq_false e1,if_pos e0]
     exact a105 E hE ρ
   ·rw[decide_eq_false e0,if_neg e0]
    exact vsi ((hE 201 (by omega) (by omega)).trans v201)
  ·rw[hTl,hba,hbb]
   by_cases e1:x=0
   ·by_cases e0:y=0
    ·rw[decide_eq_true e0,decide_eq_true e1,if_pos e1,e0];rfl
    ·rw[decide_eq_false e0,decide_eq_true e1,if_pos e1]
     exact a104 E hE ρ
   ·rw[decide_eq_false e1,if_neg e1]
    exact vsi ((hE 202 (by omega) (by omega)).trans v202)
 obtain⟨sn,hsn,hs12⟩:∃ sn:Nat,S e=sn/\(sn=1\/sn=2):=by
  rcases hSe with h1 | h1
  ·exact⟨1,h1,.inl rfl⟩
  ·exact⟨2,h1,.inr rfl⟩
 have zr:=Nat.eq_of_beq_eq_true (zt (zt (zt zsa sn (jO (by omega) (by omega))) ba (zbN _)) bb (zbN _))
 refine zbs yJ (sh:=shL ba bb) (fs:=fsL sn ba bb) (l:=[vt]) (v:=.tup []) zr rfl (by simp[shL]) (vs:=vs) (zaJ yJ hT hrt a1 tl1 (zbD yJ he (zbL h he) a106 (by omega) (by rw[v200,w1]) (by rw[v201,w2]) (by rw[v202,w3]) (zbu chA (zbu chB chW)))) (fun E hE=>?_) (fun E hE ρ=>jQ (a1 E hE ρ)) (fun E hE ρ=>rfl)
 have g100:E.i 100=S e+1:=(z4 tl1 hE (j:=0) (by omega)).trans hst'
 have app:∀ {l m:List (SB × Bool)},j8 E l->j8 E m->j8 E (l ++ m):=fun {l m} h1 h2=>by
  induction l with
  | nil=>exact h2
  | cons p r ih=>
   obtain⟨c,b⟩:=p
   exact⟨h1.1,ih h1.2⟩
 refine app ?_ ⟨?_,?_,?_⟩
 ·rcases hs12 with rfl | rfl
  ·exact⟨zal (by show E.i 100=2;omega),trivial⟩
  ·exact⟨yM (by show E.i 100≠2;omega),zal (by show E.i 100=3;omega),trivial⟩
 ·have g:=(z4 tl1 hE (j:=4) (by omega)).trans nb.pv
  rw[hba]
  by_cases e0:y=0
  ·rw[decide_eq_true e0];exact zal (by show E.i (100+4)=0;rw[g,e0];rfl)
  ·rw[decide_eq_false e0];exact yM (by show E.i (100+4)≠0;rw[g];omega)
 ·have g:=(z4 tl1 hE (j:=5) (by omega)).trans nb.nx
  rw[hbb]
  by_cases e0:x=0
  ·rw[decide_eq_true e0];exact zal (by show E.i (100+5)=0;rw[g,e0];rfl)
  ·rw[decide_eq_false e0];exact yM (by show E.i (100+5)≠0;rw[g];omega)
 ·cases ba with
  | true=>exact trivial
  | false=>exact⟨yM (by show E.i 201≠0;rw[hE 201 (by omega) (by omega),v201];omega),trivial⟩
theorem ztl (hT:T4 t) (hr:RightAt f t) (h:(za f t).st=0\/(za f t).st=1):zJ PP cP 21 [.int .i64 t] f (.tuple #[]) f:=by
 obtain⟨vs,hvs⟩:∃ vs,vs=vsL t (za f t) (zp f t) 0 (za f t) (zp f t) (za f t) (zp f t):=⟨_,rfl⟩
 have tl1:TlB vs 100 (za f t) (zp f t):=by rw[hvs];exact tlL1
 have a1:∀ E,AgV E vs->∀ ρ,vt.γ E ρ=.int .i64 t:=zaE (by omega) (by omega) (by rw[hvs];rfl)
 refine zbs yJ (l:=[vt]) (v:=.tup []) zsb rfl (by simp) (vs:=vs) (zaJ yJ hT hr a1 tl1 (z7 _)) (fun E hE=>?_) (fun E hE ρ=>jQ (a1 E hE ρ)) (fun E hE ρ=>rfl)
 have g100:E.i 100=(za f t).st:=z4 tl1 hE (j:=0) (by omega)
 exact⟨yM (by show E.i 100≠2;omega),yM (by show E.i 100≠3;omega),trivial⟩
end Go.Ev.X
end
