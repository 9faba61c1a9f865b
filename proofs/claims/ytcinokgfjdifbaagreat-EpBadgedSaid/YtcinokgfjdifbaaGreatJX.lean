import Derived.Test.YtcinokgfjdifbaaGreatJW
set_option linter.unusedSimpArgs false
set_option linter.unusedVariables false
set_option maxRecDepth 100000
noncomputable section
namespace Go.Ev.X
open Go Go.Ev Go.Proofs
def frS (s:Sf) (i:Nat):Sh:=⟨s.fr,[elE 201 i],.tup []⟩
def shC (s:Sf) (n:Nat):List Sh:=zcr s.sd.rq ve 200::(lsS s.sd.rt 201 n ++ (rng n).map (frS s))
def runC (s:Sf) (n:Nat):Nat:=s.run (shC s n) s.ca [ve] (lsF0 201 n) (.tup [])
def cbS (s:Sf):Nat->List Bool->List Sh
 | _,[]=>[]
 | i,b::r=>rdT s.sd.rt (elE 201 i) (3000+40*i)::((bif b then [frS s i] else []) ++ cbS s (i+1) r)
def cbF:Nat->List Bool->List (SB × Bool)
 | _,[]=>[]
 | i,b::r=>(.cmp .eql (.v (3007+40*i)) (.v 3),b)::cbF (i+1) r
def shB (s:Sf) (p:List Bool):List Sh:=zcr s.sd.rq ve 200::zcr s.sd.rq ve 200::(lsS s.sd.rt 201 p.length ++ cbS s 0 p)
def fsBd (p:List Bool):List (SB × Bool):=(.cmp .neq (.v 200) (.lit 1),false)::(.cmp .eql (.v 200) (.lit 1),true)::(lsF0 201 p.length ++ cbF 0 p)
def runB (s:Sf) (p:List Bool):Nat:=s.run (shB s p) s.cb [ve,sv 3] (fsBd p) (.tup [])
def fsBn (n:Nat):List (SB × Bool):=(.cmp .neq (.v 200) (.lit 1),true)::(.cmp .eql (.v 200) (.lit 1),false)::lsF0 201 n
def runBp:Nat:=sfP.run [zcr 15 ve 200] 16 [ve,sv 3] [(.cmp .neq (.v 200) (.lit 1),true)] (.tup [])
def runBr (n:Nat):Nat:=sfR.run (zcr 81 ve 200::zcr 81 ve 200::lsS 62 201 n) 32 [ve,sv 3] (fsBn n) (.tup [])
def zgg:Nat->List (List Bool)
 | 0=>[[]]
 | n+1=>(zgg n).map (true :: ·) ++ (zgg n).map (false :: ·)
theorem zeX:∀ p:List Bool,p∈zgg p.length
 | []=>by simp[zgg]
 | b::r=>by
  have:=zeX r
  show b::r∈(zgg r.length).map (true :: ·) ++ (zgg r.length).map (false :: ·)
  cases b
  ·exact List.mem_append.2 (.inr (List.mem_map.2 ⟨r,this,rfl⟩))
  ·exact List.mem_append.2 (.inl (List.mem_map.2 ⟨r,this,rfl⟩))
theorem zgx:zW (fun n=>Nat.beq (runC sfP n) 0 && (Nat.beq (runC sfR n) 0 && Nat.beq (runBr n) 0)) (rng 5)=true/\runBp=0:=by decide +kernel
theorem zsg:zW (fun n=>zW (fun p=>Nat.beq (runB sfP p) 0) (zgg n)) (zb1 1 4)=true:=by decide +kernel
theorem zsf:zW (fun n=>zW (fun p=>Nat.beq (runB sfR p) 0) (zgg n)) (zb1 1 4)=true:=by decide +kernel
variable {E:Env} {f f':Nat->Int} {t e:Nat} {L:Nat->List Nat} {Q:Nat->List Nat} {P:Nat->TV} {c:Nat} {S:Nat->Int} {vs:Nat->Int} {s:Sf}
theorem zhg (L:Nat->List Nat) (e:Nat) (a b:List Nat):za3 (za3 L e a) e b=za3 L e b:=funext fun i=>by
 by_cases h:i=e
 ·subst h;rw[zP,zP]
 ·rw[zQ _ _ h,zQ _ _ h,zQ _ _ h]
theorem zoO (L:Nat->List Nat) (e:Nat) {a:List Nat} (h:L e=a):za3 L e a=L:=funext fun i=>by
 by_cases h2:i=e
 ·subst h2;rw[zP,h]
 ·rw[zQ _ _ h2]
def canF (f:Nat->Int) (e:Nat):List Nat->(Nat->Int)
 | []=>f
 | x::r=>canF (zcb f e x) e r
theorem can_E (he:EpA e):∀ {r:List Nat} {f:Nat->Int} {Q:Nat->List Nat} {P:Nat->TV} {L:Nat->List Nat},EInv T4 EpA f Q P c L S->L e=r->∃ Q' P',EInv T4 EpA (canF f e r) Q' P' c (za3 L e []) S/\∀ u,u∉r->P' u=P u
 | [],f,Q,P,L,h,hr=>⟨Q,P,by rw[zoO L e hr];exact h,fun _ _=>rfl⟩
 | x::r,f,Q,P,L,h,hr=>by
  obtain⟨Q1,P1,h1,k1⟩:=zkO h he (a:=[]) (b:=r) hr
  obtain⟨Q2,P2,h2,k2⟩:=can_E he (r:=r) h1 (by rw[zP];rfl)
  rw[zhg]at h2
  exact⟨Q2,P2,h2,fun u hu=>(k2 u fun hm=>hu (List.mem_cons_of_mem _ hm)).trans (k1 u fun e2=>hu (by rw[e2];simp))⟩
theorem can_ch (hs:SfOk s) (zr:∀ k,s.run (shF s k) s.fr [vt] (fsF k) (.tup [])=0) (he:EpA e):∀ {r:List Nat} {i:Nat} {f:Nat->Int} {Q:Nat->List Nat} {P:Nat->TV} {L:Nat->List Nat},EInv T4 EpA f Q P c L S->L e=r->(∀ k,k<r.length->∀ E,AgV E vs->∀ ρ,(elE 201 (i+k)).γ E ρ=.int .i64 (r.getD k 0:Nat))->Chn s.sd.c vs ((zb1 i r.length).map (frS s)) f (canF f e r)
 | [],i,f,Q,P,L,h,hr,hv=>z7 f
 | x::r,i,f,Q,P,L,h,hr,hv=>by
  obtain⟨Q1,P1,h1,k1⟩:=zkO h he (a:=[]) (b:=r) hr
  exact zan (free_c hs zr h he (a:=[]) (b:=r) hr) (fun E hE ρ=>jQ (hv 0 (by simp) E hE ρ)) (fun E hE ρ=>rfl) (can_ch hs zr he (r:=r) (i:=i+1) h1 (by rw[zP];rfl) fun k hk E hE ρ=>by
   have:=hv (k+1) (by simp;omega) E hE ρ
   rw[show i+(k+1)=i+1+k from by omega]at this
   exact this)
def vsC (e:Nat) (bd:Int) (w:Int) (f:Nat->Int) (l:List Nat) (B:Nat->Nat->Int) (i:Nat):Int:=
 if i=2 then e else if i=3 then bd else if i=200 then stQ w else if i=201 then hdQ w else if i=202 then tlQ w
 else if i<2900 then ym (za f (l.getD ((i - 1000) / 40) 0)) (zp f (l.getD ((i - 1000) / 40) 0)) ((i - 1000) % 40)
 else ym (za (B ((i - 3000) / 40)) (l.getD ((i - 3000) / 40) 0)) (zp (B ((i - 3000) / 40)) (l.getD ((i - 3000) / 40) 0)) ((i - 3000) % 40)
theorem znA {bd w:Int} {l:List Nat} {B:Nat->Nat->Int} {i:Nat} (hi:i<8):TlB (vsC e bd w f l B) (1000+40*i) (za f (l.getD i 0)) (zp f (l.getD i 0)):=⟨by omega,by omega,fun j hj=>by
 unfold vsC
 rw[if_neg (by omega),if_neg (by omega),if_neg (by omega),if_neg (by omega),if_neg (by omega),if_pos (by omega),show (1000+40*i+j - 1000) / 40=i from by omega,show (1000+40*i+j - 1000) % 40=j from by omega]⟩
theorem vsC_30 {bd w:Int} {l:List Nat} {B:Nat->Nat->Int} {i:Nat} (hi:i<8):TlB (vsC e bd w f l B) (3000+40*i) (za (B i) (l.getD i 0)) (zp (B i) (l.getD i 0)):=⟨by omega,by omega,fun j hj=>by
 unfold vsC
 rw[if_neg (by omega),if_neg (by omega),if_neg (by omega),if_neg (by omega),if_neg (by omega),if_neg (by omega),show (3000+40*i+j - 3000) / 40=i from by omega,show (3000+40*i+j - 3000) % 40=j from by omega]⟩
theorem zm4 (hs:SfOk s) (hrf:∀ k,s.run (shF s k) s.fr [vt] (fsF k) (.tup [])=0) (zr:∀ n,n<5->runC s n=0) (h:EInv T4 EpA f Q P c L S) (he:EpA e):zJ PP s.sd.c s.ca [.int .i64 e] f (.tuple #[]) (canF f e (L e)):=by
 obtain⟨w1,w2,w3,w4,w5⟩:=jB z5 h he
 have hlT:∀ u∈L e,T4 u:=fun u hu=>(h.w e u he hu).1
 have hl0:∀ u∈L e,u≠0:=fun u hu=>by have:=zag z5 h he u hu;omega
 have hn4:=len4 (h.nd e he) hlT
 obtain⟨vs,hvs⟩:∃ vs,vs=vsC e 0 (f e) f (L e) (fun _=>f):=⟨_,rfl⟩
 have ae:∀ E,AgV E vs->∀ ρ,ve.γ E ρ=.int .i64 e:=zaE (by omega) (by omega) (by rw[hvs];rfl)
 have lv:LsV vs 201 f (L e):=⟨by omega,by rw[hvs,<- w2];rfl,fun i hi=>by rw[hvs];exact znA (by omega)⟩
 exact hs.run (sh:=shC s (L e).length) (zr _ (by omega)) rfl (by simp[shC]) (vs:=vs)
  (zbD hs.sd he (zbL h he) ae (by omega) (by rw[hvs];rfl) (by rw[hvs];rfl) (by rw[hvs];rfl) (zbu (zjb hs.sd lv (h.lk e he) hlT (fun u hu=>(h.w e u he hu).2.1) (L e).length 0 (by omega)) (can_ch hs hrf he h rfl fun k hk E hE ρ=>by
   rw[Nat.zero_add];exact vsi (zbX lv (h.lk e he) hE hk)))) (fun E hE=>zeY lv (h.lk e he) hl0 hE) (fun E hE ρ=>jQ (ae E hE ρ)) (fun E hE ρ=>rfl)
theorem zuH (h:EInv T4 EpA f Q P c L S) (he:EpA e):zJ PP cP 11 [.int .i64 e] f (.tuple #[]) (canF f e (L e)):=zm4 znH zpr (fun n hn=>by
 have:=rng_ok zgx.1 n hn
 simp only[Bool.and_eq_true,Nat.beq_eq]at this
 exact this.1) h he
theorem zuG (h:EInv T4 EpA f Q P c L S) (he:EpA e):zJ PP cR 30 [.int .i64 e] f (.tuple #[]) (canF f e (L e)):=zm4 znG zpq (fun n hn=>by
 have:=rng_ok zgx.1 n hn
 simp only[Bool.and_eq_true,Nat.beq_eq]at this
 exact this.2.1) h he
def zdJ (f:Nat->Int) (e:Nat) (bd:Int):List Nat->(Nat->Int)
 | []=>f
 | x::r=>zdJ (if (za f x).bd=bd then zcb f e x else f) e bd r
def zfg (f:Nat->Int) (e:Nat) (bd:Int):List Nat->List Bool
 | []=>[]
 | x::r=>decide ((za f x).bd=bd)::zfg (if (za f x).bd=bd then zcb f e x else f) e bd r
theorem zna:∀ {r:List Nat} {f:Nat->Int} {bd:Int},(zfg f e bd r).length=r.length
 | [],_,_=>rfl
 | x::r,f,bd=>by
  show (zfg _ e bd r).length+1=r.length+1
  rw[zna]
def zaf (P:Nat->TV) (bd:Int) (r:List Nat):List Nat:=r.filter fun x=>decide ((P x).bd≠bd)
theorem zpC (he:EpA e) {bd:Int}:∀ {r kept:List Nat} {f:Nat->Int} {Q:Nat->List Nat} {P:Nat->TV} {L:Nat->List Nat},EInv T4 EpA f Q P c L S->L e=kept ++ r->∃ Q' P',EInv T4 EpA (zdJ f e bd r) Q' P' c (za3 L e (kept ++ zaf P bd r)) S/\∀ u,u∉r\/(P u).bd≠bd->P' u=P u
 | [],kept,f,Q,P,L,h,hr=>⟨Q,P,by rw[show zaf P bd []=[] from rfl,zoO L e hr];exact h,fun _ _=>rfl⟩
 | x::r,kept,f,Q,P,L,h,hr=>by
  have hx:=h.w e x he (by rw[hr];simp)
  have hbd:(za f x).bd=(P x).bd:=by rw[<- hx.2.2.1];rfl
  have hnd:=h.nd e he
  rw[hr]at hnd
  have hxr:x∉r:=(List.nodup_cons.1 (List.nodup_append.1 hnd).2.1).1
  by_cases hb:(za f x).bd=bd
  ·obtain⟨Q1,P1,h1,k1⟩:=zkO h he (a:=kept) (b:=r) hr
   obtain⟨Q2,P2,h2,k2⟩:=zpC he (bd:=bd) (r:=r) (kept:=kept) h1 (by rw[zP])
   rw[zhg]at h2
   have hre:zaf P1 bd r=zaf P bd r:=List.filter_congr fun u hu=>by rw[k1 u fun e2=>hxr (e2 ▸ hu)]
   have hrx:zaf P bd (x::r)=zaf P bd r:=by
    unfold zaf
    rw[List.filter_cons,if_neg]
    simp;rw[<- hbd];exact hb
   refine⟨Q2,P2,?_,fun u hu=>?_⟩
   ·show EInv T4 EpA (zdJ (if (za f x).bd=bd then zcb f e x else f) e bd r) Q2 P2 c _ S
    rw[if_pos hb,hrx,<- hre];exact h2
   ·have hux:u≠x:=fun e2=>by
     rcases hu with h3 | h3
     ·exact h3 (by rw[e2];simp)
     ·rw[e2,<- hbd]at h3;exact h3 hb
    rw[<- k1 u hux]
    refine k2 u ?_
    rcases hu with h3 | h3
    ·exact .inl fun hm=>h3 (List.mem_cons_of_mem _ hm)
    ·exact .inr (by rw[k1 u hux];exact h3)
  ·obtain⟨Q2,P2,h2,k2⟩:=zpC he (bd:=bd) (r:=r) (kept:=kept ++ [x]) h (by rw[hr];simp)
   have hrx:kept ++ zaf P bd (x::r)=kept ++ [x] ++ zaf P bd r:=by
    unfold zaf
    rw[List.filter_cons,if_pos]
    ·simp
    ·simp;rw[<- hbd];exact hb
   refine⟨Q2,P2,?_,fun u hu=>k2 u ?_⟩
   ·show EInv T4 EpA (zdJ (if (za f x).bd=bd then zcb f e x else f) e bd r) Q2 P2 c _ S
    rw[if_neg hb,hrx];exact h2
   ·rcases hu with h3 | h3
    ·exact .inl fun hm=>h3 (List.mem_cons_of_mem _ hm)
    ·exact .inr h3
theorem zoy (hs:SfOk s) (zr:∀ k,s.run (shF s k) s.fr [vt] (fsF k) (.tup [])=0) (he:EpA e) {bd:Int} (h3:vs 3=bd):∀ {r kept:List Nat} {i:Nat} {f:Nat->Int} {Q:Nat->List Nat} {P:Nat->TV} {L:Nat->List Nat},EInv T4 EpA f Q P c L S->L e=kept ++ r->(∀ k,k<r.length->∀ E,AgV E vs->∀ ρ,(elE 201 (i+k)).γ E ρ=.int .i64 (r.getD k 0:Nat))->(∀ k,k<r.length->TlB vs (3000+40*(i+k)) (za (zdJ f e bd (r.take k)) (r.getD k 0)) (zp (zdJ f e bd (r.take k)) (r.getD k 0))) ->
  Chn s.sd.c vs (cbS s i (zfg f e bd r)) f (zdJ f e bd r)/\∀ E,AgV E vs->j8 E (cbF i (zfg f e bd r))
 | [],kept,i,f,Q,P,L,h,hr,hv,ht=>⟨z7 f,fun E hE=>trivial⟩
 | x::r,kept,i,f,Q,P,L,h,hr,hv,ht=>by
  have hx:=h.w e x he (by rw[hr];simp)
  have t0:=ht 0 (by simp)
  have t0:TlB vs (3000+40*i) (za f x) (zp f x):=t0
  have a0:=hv 0 (by simp)
  have hfact:∀ E,AgV E vs->(SB.cmp .eql (.v (3007+40*i)) (.v 3)).den E=decide ((za f x).bd=bd):=fun E hE=>by
   have g1:E.i (3007+40*i)=(za f x).bd:=by
    rw[show 3007+40*i=3000+40*i+7 from by omega]
    exact z4 t0 hE (j:=7) (by omega)
   have g2:E.i 3=bd:=(hE 3 (by omega) (by omega)).trans h3
   by_cases hb:(za f x).bd=bd
   ·rw[decide_eq_true hb];exact zal (by show E.i _=E.i 3;rw[g1,g2];exact hb)
   ·rw[decide_eq_false hb];exact yM (by show E.i _≠E.i 3;rw[g1,g2];exact hb)
  have sh:∀ k,i+(k+1)=i+1+k:=fun k=>by omega
  by_cases hb:(za f x).bd=bd
  ·obtain⟨Q1,P1,h1,k1⟩:=zkO h he (a:=kept) (b:=r) hr
   have hbf:∀ l,zdJ f e bd (x::l)=zdJ (zcb f e x) e bd l:=fun l=>by
    show zdJ (if (za f x).bd=bd then zcb f e x else f) e bd l=_
    rw[if_pos hb]
   obtain⟨c1,c2⟩:=zoy hs zr he h3 (r:=r) (kept:=kept) (i:=i+1) h1 (by rw[zP]) (fun k hk E hE ρ=>by rw[<- sh k];exact hv (k+1) (by simp;omega) E hE ρ) (fun k hk=>by
    have:=ht (k+1) (by simp;omega)
    rw[List.take_succ_cons,hbf,sh k]at this
    exact this)
   have hp:zfg f e bd (x::r)=true::zfg (zcb f e x) e bd r:=by
    show decide ((za f x).bd=bd)::zfg (if (za f x).bd=bd then zcb f e x else f) e bd r=_
    rw[if_pos hb,decide_eq_true hb]
   rw[hp,hbf]
   exact⟨zaJ hs.sd hx.1 hx.2.1 a0 t0 (zan (free_c hs zr h he (a:=kept) (b:=r) hr) (fun E hE ρ=>jQ (a0 E hE ρ)) (fun E hE ρ=>rfl) c1),fun E hE=>⟨(hfact E hE).trans (decide_eq_true hb),c2 E hE⟩⟩
  ·have hbf:∀ l,zdJ f e bd (x::l)=zdJ f e bd l:=fun l=>by
    show zdJ (if (za f x).bd=bd then zcb f e x else f) e bd l=_
    rw[if_neg hb]
   obtain⟨c1,c2⟩:=zoy hs zr he h3 (r:=r) (kept:=kept ++ [x]) (i:=i+1) h (by rw[hr];simp) (fun k hk E hE ρ=>by rw[<- sh k];exact hv (k+1) (by simp;omega) E hE ρ) (fun k hk=>by
    have:=ht (k+1) (by simp;omega)
    rw[List.take_succ_cons,hbf,sh k]at this
    exact this)
   have hp:zfg f e bd (x::r)=false::zfg f e bd r:=by
    show decide ((za f x).bd=bd)::zfg (if (za f x).bd=bd then zcb f e x else f) e bd r=_
    rw[if_neg hb,decide_eq_false hb]
   rw[hp,hbf]
   exact⟨zaJ hs.sd hx.1 hx.2.1 a0 t0 c1,fun E hE=>⟨(hfact E hE).trans (decide_eq_false hb),c2 E hE⟩⟩
theorem zpB (hs:SfOk s) (hrf:∀ k,s.run (shF s k) s.fr [vt] (fsF k) (.tup [])=0) (zr:∀ p:List Bool,1<=p.length->p.length<=4->runB s p=0) (h:EInv T4 EpA f Q P c L S) (he:EpA e) (hne:L e≠[]) (hS:S e=1) (bd:Int):zJ PP s.sd.c s.cb [.int .i64 e,.int .i64 bd] f (.tuple #[]) (zdJ f e bd (L e)):=by
 obtain⟨w1,w2,w3,w4,w5⟩:=jB z5 h he
 rw[if_neg hne]at w1
 have hlT:∀ u∈L e,T4 u:=fun u hu=>(h.w e u he hu).1
 have hl0:∀ u∈L e,u≠0:=fun u hu=>by have:=zag z5 h he u hu;omega
 have hn4:=len4 (h.nd e he) hlT
 have hn1:(L e).length≠0:=fun e2=>hne (List.length_eq_zero_iff.1 e2)
 obtain⟨vs,hvs⟩:∃ vs,vs=vsC e bd (f e) f (L e) (fun k=>zdJ f e bd ((L e).take k)):=⟨_,rfl⟩
 have ae:∀ E,AgV E vs->∀ ρ,ve.γ E ρ=.int .i64 e:=zaE (by omega) (by omega) (by rw[hvs];rfl)
 have ab:∀ E,AgV E vs->∀ ρ,(sv 3).γ E ρ=.int .i64 bd:=zaE (by omega) (by omega) (by rw[hvs];rfl)
 have v200:vs 200=stQ (f e):=by rw[hvs];rfl
 have lv:LsV vs 201 f (L e):=⟨by omega,by rw[hvs,<- w2];rfl,fun i hi=>by rw[hvs];exact znA (by omega)⟩
 obtain⟨c1,c2⟩:=zoy hs hrf he (bd:=bd) (vs:=vs) (by rw[hvs];rfl) (r:=L e) (kept:=[]) (i:=0) h rfl (fun k hk E hE ρ=>by rw[Nat.zero_add];exact vsi (zbX lv (h.lk e he) hE hk)) (fun k hk=>by rw[hvs,Nat.zero_add];exact vsC_30 (by omega))
 have chl:=zjb hs.sd lv (h.lk e he) hlT (fun u hu=>(h.w e u he hu).2.1) (L e).length 0 (by omega)
 have hpl:(zfg f e bd (L e)).length=(L e).length:=zna
 refine hs.run (sh:=shB s (zfg f e bd (L e))) (fs:=fsBd (zfg f e bd (L e))) (zr _ (by omega) (by omega)) rfl (by simp[shB]) (vs:=vs)
  (zbD hs.sd he (zbL h he) ae (by omega) v200 (by rw[hvs];rfl) (by rw[hvs];rfl) (zbD hs.sd he (zbL h he) ae (by omega) v200 (by rw[hvs];rfl) (by rw[hvs];rfl) (zbu (by rw[hpl];exact chl) c1))) (fun E hE=>?_) (fun E hE ρ=>yY (ae E hE ρ) (ab E hE ρ)) (fun E hE ρ=>rfl)
 have g200:E.i 200=1:=by rw[hE 200 (by omega) (by omega),v200];omega
 refine⟨yu (by show E.i 200=1;exact g200),zal (by show E.i 200=1;exact g200),jS ?_ (c2 E hE)⟩
 rw[hpl]
 exact zeY lv (h.lk e he) hl0 hE
theorem zpA (h:EInv T4 EpA f Q P c L S) (he:EpA e) (hne:L e≠[]) (hS:S e=1) (bd:Int):zJ PP cP 16 [.int .i64 e,.int .i64 bd] f (.tuple #[]) (zdJ f e bd (L e)):=
 zpB znH zpr (fun p h1 h2=>Nat.eq_of_beq_eq_true (zt (zt zsg p.length (jO h1 (by omega))) p (zeX p))) h he hne hS bd
theorem badge_r (h:EInv T4 EpA f Q P c L S) (he:EpA e) (hne:L e≠[]) (hS:S e=1) (bd:Int):zJ PP cR 32 [.int .i64 e,.int .i64 bd] f (.tuple #[]) (zdJ f e bd (L e)):=
 zpB znG zpq (fun p h1 h2=>Nat.eq_of_beq_eq_true (zt (zt zsf p.length (jO h1 (by omega))) p (zeX p))) h he hne hS bd
theorem zm9 (h:EInv T4 EpA f Q P c L S) (he:EpA e) (hn:L e=[]\/S e=2) (bd:Int):zJ PP cP 16 [.int .i64 e,.int .i64 bd] f (.tuple #[]) f:=by
 obtain⟨w1,w2,w3,w4,w5⟩:=jB z5 h he
 have hq1:stQ (f e)≠1:=by
  rw[w1]
  split
  ·omega
  ·rename_i h0;rw[hn.resolve_left h0];omega
 refine znH.run (l:=[ve,sv 3]) (v:=.tup []) zgx.2 rfl (by simp) (vs:=vsC e bd (f e) f (L e) (fun _=>f)) (zbD yJ he (zbL h he) (zaE (by omega) (by omega) rfl) (by omega) rfl rfl rfl (z7 _)) (fun E hE=>⟨j7 ?_,trivial⟩) (fun E hE ρ=>yY (zaE (by omega) (by omega) rfl E hE ρ) (zaE (by omega) (by omega) rfl E hE ρ)) (fun E hE ρ=>rfl)
 show E.i 200≠1
 rw[hE 200 (by omega) (by omega)]
 exact hq1
theorem zuR (h:EInv T4 EpA f Q P c L S) (he:EpA e) (hn:L e=[]\/S e=2) (bd:Int):zJ PP cR 32 [.int .i64 e,.int .i64 bd] f (.tuple #[]) f:=by
 obtain⟨w1,w2,w3,w4,w5⟩:=jB z5 h he
 have hq1:stQ (f e)≠1:=by
  rw[w1]
  split
  ·omega
  ·rename_i h0;rw[hn.resolve_left h0];omega
 have hlT:∀ u∈L e,T4 u:=fun u hu=>(h.w e u he hu).1
 have hl0:∀ u∈L e,u≠0:=fun u hu=>by have:=zag z5 h he u hu;omega
 have hn4:=len4 (h.nd e he) hlT
 obtain⟨vs,hvs⟩:∃ vs,vs=vsC e bd (f e) f (L e) (fun _=>f):=⟨_,rfl⟩
 have ae:∀ E,AgV E vs->∀ ρ,ve.γ E ρ=.int .i64 e:=zaE (by omega) (by omega) (by rw[hvs];rfl)
 have ab:∀ E,AgV E vs->∀ ρ,(sv 3).γ E ρ=.int .i64 bd:=zaE (by omega) (by omega) (by rw[hvs];rfl)
 have v200:vs 200=stQ (f e):=by rw[hvs];rfl
 have lv:LsV vs 201 f (L e):=⟨by omega,by rw[hvs,<- w2];rfl,fun i hi=>by rw[hvs];exact znA (by omega)⟩
 have hr:runBr (L e).length=0:=by
  have:=rng_ok zgx.1 (L e).length (by omega)
  simp only[Bool.and_eq_true,Nat.beq_eq]at this
  exact this.2.2
 refine znG.run (l:=[ve,sv 3]) (v:=.tup []) hr rfl (by simp) (vs:=vs) (zbD yB he (zbL h he) ae (by omega) v200 (by rw[hvs];rfl) (by rw[hvs];rfl) (zbD yB he (zbL h he) ae (by omega) v200 (by rw[hvs];rfl) (by rw[hvs];rfl) (zjb yB lv (h.lk e he) hlT (fun u hu=>(h.w e u he hu).2.1) (L e).length 0 (by omega)))) (fun E hE=>?_) (fun E hE ρ=>yY (ae E hE ρ) (ab E hE ρ)) (fun E hE ρ=>rfl)
 have g200:E.i 200=stQ (f e):=by rw[hE 200 (by omega) (by omega),v200]
 exact⟨j7 (by show E.i 200≠1;omega),yM (by show E.i 200≠1;omega),zeY lv (h.lk e he) hl0 hE⟩
end Go.Ev.X
end
