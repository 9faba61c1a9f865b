import Derived.Test.YtckgidiokbofiaaGreatDoorMRA
set_option linter.unusedSimpArgs false
set_option linter.unusedVariables false
set_option maxRecDepth 100000
noncomputable section
namespace Go.Ev.X
open Go Go.Ev Go.Proofs
open Go.RowKit
variable {E:Env}
theorem zbM (g:Nat->Int):∀ (n i m:Nat),lnF g i (n+m)=lnF g i n ++ lnF g (i+n) m
 | 0,i,m=>by rw[Nat.zero_add,Nat.add_zero];rfl
 | n+1,i,m=>by
  rw[show n+1+m=(n+m)+1 from by omega]
  show Value.int .i64 (g i)::lnF g (i+1) (n+m)=Value.int .i64 (g i)::(lnF g (i+1) n ++ lnF g (i+(n+1)) m)
  rw[zbM g n (i+1) m,show i+1+n=i+(n+1) from by omega]
theorem zbS {E:Env} {ρ:Rho} {g:Nat->Int} {B:Nat}:∀ (n i:Nat),(∀ j,i<=j->j<i+n->E.i (B+j)=g j)->γL E ρ (zba (B+i) n)=lnF g i n
 | 0,_,_=>rfl
 | n+1,i,h=>by
  show Value.int .i64 (E.i (B+i))::γL E ρ (zba (B+i+1) n)=Value.int .i64 (g i)::lnF g (i+1) n
  rw[h i (by omega) (by omega),show B+i+1=B+(i+1) from by omega,zbS n (i+1) (fun j h1 h2=>h j (by omega) (by omega))]
theorem zvI {E:Env} {ρ:Rho} {g:Nat->Int} {B:Nat} (hg:∀ j,j<32->E.i (B+j)=g j):γL E ρ (cel B)=lnF g 0 32:=zbS (B:=B) 32 0 (fun j _ h=>hg j (by omega))
def E3 (g:Nat->Int) (p:Nat):Env:=⟨fun i=>if i=3999 then p else if i<3100 then g (4*(i - 3000)+1) else if i<3200 then g (4*(i - 3100)+2) else g (i - 3200),fun _=>false,fun _=>⟨0,0,0,0,0,0,0,#[],(0,0)⟩⟩
variable {g:Nat->Int} {p:Nat}
theorem E3_p:(E3 g p).i 3999=p:=by
 unfold E3
 simp
theorem E3_1 {i:Nat} (hi:i<8):(E3 g p).i (3000+i)=g (4*i+1):=by
 show (if 3000+i=3999 then _ else if 3000+i<3100 then g (4*(3000+i - 3000)+1) else _)=_
 rw[if_neg (by omega),if_pos (by omega),show 3000+i - 3000=i from by omega]
theorem E3_2 {i:Nat} (hi:i<8):(E3 g p).i (3100+i)=g (4*i+2):=by
 show (if 3100+i=3999 then _ else if 3100+i<3100 then _ else if 3100+i<3200 then g (4*(3100+i - 3100)+2) else _)=_
 rw[if_neg (by omega),if_neg (by omega),if_pos (by omega),show 3100+i - 3100=i from by omega]
theorem E3_3 {j:Nat} (hj:j<32):(E3 g p).i (3200+j)=g j:=by
 show (if 3200+j=3999 then _ else if 3200+j<3100 then _ else if 3200+j<3200 then _ else g (3200+j - 3200))=_
 rw[if_neg (by omega),if_neg (by omega),if_neg (by omega),show 3200+j - 3200=j from by omega]
theorem lnT_ok {ρ:Rho} {i:Nat} (hi:i<8) (h0:g (4*i)=8) (h3:g (4*i+3)=3):γL (E3 g p) ρ (lnT i)=lnF g (4*i) 4:=by
 show [Value.int .i64 8,Value.int .i64 ((E3 g p).i (3000+i)),Value.int .i64 ((E3 g p).i (3100+i)),Value.int .i64 3]=[Value.int .i64 (g (4*i)),Value.int .i64 (g (4*i+1)),Value.int .i64 (g (4*i+1+1)),Value.int .i64 (g (4*i+1+1+1))]
 rw[E3_1 hi,E3_2 hi,h0,show 4*i+1+1+1=4*i+3 from by omega,h3]
theorem lnZ_ok {E:Env} {ρ:Rho} {i:Nat} (h:g (4*i)=0/\g (4*i+1)=0/\g (4*i+2)=0/\g (4*i+3)=0):γL E ρ lnZ=lnF g (4*i) 4:=by
 show [Value.int .i64 0,Value.int .i64 0,Value.int .i64 0,Value.int .i64 0]=[Value.int .i64 (g (4*i)),Value.int .i64 (g (4*i+1)),Value.int .i64 (g (4*i+1+1)),Value.int .i64 (g (4*i+1+1+1))]
 rw[h.1,h.2.1,show 4*i+1+1=4*i+2 from by omega,h.2.2.1,show 4*i+2+1=4*i+3 from by omega,h.2.2.2]
theorem LnOk.right {i:Nat} (h:LnOk g i) (h0:g (4*i)≠0):∃ p:Nat,p<8/\g (4*i)=8/\g (4*i+1)=p/\g (4*i+2)=(baP p:Nat)/\g (4*i+3)=3:=by
 rcases h with h | h
 ·exact absurd h.1 h0
 ·exact h
def stL (g:Nat->Int):Nat->Nat->List Bool
 | _,0=>[]
 | i,n+1=>decide (g (4*i)≠0)::stL g (i+1) n
theorem zvZ (g:Nat->Int):∀ (n i:Nat),(stL g i n).length=n
 | 0,_=>rfl
 | n+1,i=>by show (stL g (i+1) n).length+1=n+1;rw[zvZ g n]
theorem lnP_ok {ρ:Rho} (hR:RL g):∀ (n i:Nat),i+n<=8->(i+n<8->g (4*(i+n))≠0)->γL (E3 g p) ρ (lnP i (stL g i n))=lnF g (4*i) (32 - 4*i)
 | 0,i,h1,h2=>by
  show γL _ _ (bc (Nat.blt i 8) _ _)=_
  by_cases h8:i<8
  ·rw[show Nat.blt i 8=true by rw[Nat.blt_eq];exact h8]
   show γL (E3 g p) ρ (lnT i ++ zba (3200+4*(i+1)) (28 - 4*i))=_
   obtain⟨q,hq,e0,e1,e2,e3⟩:=(hR i h8).right (h2 (by omega))
   rw[γL_append,lnT_ok h8 e0 e3,zbS (B:=3200) (g:=g) _ _ (fun j h3 h4=>E3_3 (by omega)),show 32 - 4*i=4+(28 - 4*i) from by omega,zbM,show 4*(i+1)=4*i+4 from by omega]
  ·have:i=8:=by omega
   subst this
   rfl
 | n+1,i,h1,h2=>by
  show γL (E3 g p) ρ (bc (decide (g (4*i)≠0)) (lnT i) lnZ ++ lnP (i+1) (stL g (i+1) n))=_
  rw[γL_append,lnP_ok hR n (i+1) (by omega) (fun h=>by have:=h2 (by omega);rw[show i+1+n=i+(n+1) from by omega];exact this),show 32 - 4*i=4+(32 - 4*(i+1)) from by omega,zbM,show 4*(i+1)=4*i+4 from by omega]
  congr 1
  by_cases h0:g (4*i)≠0
  ·rw[decide_eq_true h0]
   obtain⟨q,hq,e0,e1,e2,e3⟩:=(hR i (by omega)).right h0
   exact lnT_ok (by omega) e0 e3
  ·rw[decide_eq_false h0]
   rcases hR i (by omega) with h | ⟨q,_,e0,_⟩
   ·exact lnZ_ok h
   ·exact absurd (show g (4*i)≠0 by rw[e0];omega) h0
theorem eq_den {E:Env} {a b:Nat}:(SB.cmp .eql (.v a) (.v b)).den E=decide (E.i a=E.i b):=jb _ _
theorem fsP_ok (hR:RL g):∀ (n i:Nat),i+n<=8->(∀ k,i<=k->k<i+n->¬ Hit g p k)->(i+n<8->Hit g p (i+n))->∀ c∈fsP i (stL g i n),SB.den (E3 g p) c.1=c.2
 | 0,i,h1,_,h2=>by
  show ∀ c∈bc (Nat.blt i 8) _ _,_
  by_cases h8:i<8
  ·rw[show Nat.blt i 8=true by rw[Nat.blt_eq];exact h8]
   intro c hc
   rw[List.mem_singleton.1 (show c∈[_] from hc)]
   show (SB.cmp .eql (.v (3000+i)) (.v 3999)).den (E3 g p)=true
   rw[eq_den,E3_1 h8,E3_p]
   exact decide_eq_true (h2 (by omega)).2
  ·have:i=8:=by omega
   subst this
   intro c hc
   cases hc
 | n+1,i,h1,h3,h2=>by
  have ih:=fsP_ok hR n (i+1) (by omega) (fun k g1 g2=>h3 k (by omega) (by omega)) (fun h=>by have:=h2 (by omega);rw[show i+1+n=i+(n+1) from by omega];exact this)
  show ∀ c∈bc (decide (g (4*i)≠0)) (_::fsP (i+1) (stL g (i+1) n)) (fsP (i+1) (stL g (i+1) n)),_
  by_cases h0:g (4*i)≠0
  ·rw[decide_eq_true h0]
   obtain⟨q,hq,e0,e1,e2,e3⟩:=(hR i (by omega)).right h0
   intro c hc
   rcases List.mem_cons.1 (show c∈_::fsP (i+1) (stL g (i+1) n) from hc) with rfl | hc
   ·show (SB.cmp .eql (.v (3000+i)) (.v 3999)).den (E3 g p)=false
    rw[eq_den,E3_1 (by omega),E3_p]
    exact decide_eq_false (fun h=>h3 i (by omega) (by omega) ⟨e0,h⟩)
   ·exact ih c hc
  ·rw[decide_eq_false h0]
   exact ih
theorem at_ok (hlen:∀ E,jf E) {b:Nat} (hg:∀ j,j<32->E.i (b+j)=g j) (hR:RL g) {h:Nat} (hh:h<=8) (no:∀ k,k<h->¬ Hit g p k) (hit:h<8->Hit g p h):TE.Ok E Tryz.prog 133 (atE b p h):=by
 obtain⟨r,hr⟩:∃ r,r=stL g 0 h:=⟨_,rfl⟩
 have hrl:r.length=h:=by rw[hr];exact zvZ g h 0
 have hrun:bc (Nat.beq (ztv r) 0) (zbe .h (lnP 0 r)) false=true:=by
  have:=rng_ok at_run h (by omega)
  have:=jA this r (by rw[<- hrl];exact ztO r)
  exact this
 cases e1:Nat.beq (ztv r) 0 with
 | false=>rw[e1]at hrun;cases hrun
 | true=>
 rw[e1]at hrun
 have hb:zbe .h (lnP 0 r)=true:=hrun
 have hb:bdL 1 (lnP 0 r):=zaD (n:=.h) _ hb
 have e1:ztv r=0:=by simpa using e1
 unfold ztv at e1
 have n0:h<8->g (4*h)≠0:=fun h8=>by rw[(hit h8).1];omega
 have te:=zcs (E:=E3 g p) (P:=Tryz.prog) (zaq (hlen _)) (fa_all (by rw[hr];exact fsP_ok hR h 0 (by omega) (fun k _ h2=>no k (by omega)) (fun h8=>by rw[Nat.zero_add];exact hit (by omega)))) e1 ⟨trivial,trivial,trivial⟩ hb trivial hb
 have hl:∀ ρ,γL E ρ (cel b)=γL (E3 g p) ρ (lnP 0 r):=fun ρ=>by
  rw[zvI hg,hr,lnP_ok hR h 0 (by omega) (fun h8=>by rw[Nat.zero_add];exact n0 (by omega))]
 refine zeJ te (fun ρ=>?_) hl (fun ρ=>?_) hl ⟨trivial,trivial,trivial⟩ trivial (zcm b)
 ·show [Value.int .i64 8,Value.int .i64 (p:Nat)]=[Value.int .i64 8,Value.int .i64 ((E3 g p).i 3999)]
  rw[E3_p]
 ·show Value.int .i64 (atV h)=Value.int .i64 (atV r.length)
  rw[hrl]
def evG (g:Nat->Int) (n j:Nat):Int:=if j / 4=n then 0 else g j
theorem RL_ev (hR:RL g) (n:Nat):RL (evG g n):=fun i hi=>by
 have d:∀ k,k<4->evG g n (4*i+k)=if i=n then 0 else g (4*i+k):=fun k hk=>by
  unfold evG
  rw[show (4*i+k) / 4=i from by omega]
 have d0:=d 0 (by omega)
 rw[Nat.add_zero]at d0
 unfold LnOk
 rw[d0,d 1 (by omega),d 2 (by omega),d 3 (by omega)]
 by_cases e:i=n
 ·exact .inl ⟨if_pos e,if_pos e,if_pos e,if_pos e⟩
 ·rw[if_neg e,if_neg e,if_neg e,if_neg e]
  exact hR i hi
theorem ev_ok (hlen:∀ E,jf E) {n:Nat} (hn:n<8) (h20:E.i 20=(n:Nat)) (h21:∀ j,j<32->E.i (2100+j)=evG (fun j=>E.i (2000+j)) n j):TE.Ok E Tryz.prog 133 evE:=by
 have hr:=Nat.eq_of_beq_eq_true (rng_ok ev_run n hn)
 have hb:bdL 1 (zba 2000 (4*n) ++ (lnZ ++ zba (2004+4*n) (28 - 4*n))):=zae (zcC _ _) (zae ⟨trivial,trivial,trivial,trivial,trivial⟩ (zcC _ _))
 have te:=zcs (E:=E) (P:=Tryz.prog) (zaq (hlen _)) FaOk.nil hr ⟨trivial,trivial⟩ (zcm 2000) trivial hb
 refine zeJ te (fun ρ=>?_) (fun ρ=>rfl) (fun ρ=>rfl) (fun ρ=>?_) ⟨trivial,trivial⟩ trivial (zcm 2100)
 ·show [Value.int .i64 (E.i 20)]=[Value.int .i64 (n:Nat)]
  rw[h20]
 ·show γL E ρ (cel 2100)=γL E ρ (zba 2000 (4*n) ++ (lnZ ++ zba (2004+4*n) (28 - 4*n)))
  obtain⟨G,hG⟩:∃ G,G=evG (fun j=>E.i (2000+j)) n:=⟨_,rfl⟩
  have z:∀ k,k<4->G (4*n+k)=0:=fun k hk=>by rw[hG];exact if_pos (by omega)
  have z0:=z 0 (by omega)
  rw[Nat.add_zero]at z0
  rw[zvI (g:=G) (fun j hj=>by rw[hG];exact h21 j hj),γL_append,γL_append,lnZ_ok (g:=G) (i:=n) ⟨z0,z 1 (by omega),z 2 (by omega),z 3 (by omega)⟩]
  have a1:γL E ρ (zba 2000 (4*n))=lnF G 0 (4*n):=zbS (B:=2000) (4*n) 0 (fun j _ h=>by rw[hG];exact(if_neg (by omega)).symm)
  have a2:γL E ρ (zba (2004+4*n) (28 - 4*n))=lnF G (4*n+4) (28 - 4*n):=by
   rw[show 2004+4*n=2000+(4*n+4) from by omega]
   exact zbS (B:=2000) _ _ (fun j h1 h2=>by rw[hG];exact(if_neg (by omega)).symm)
  rw[a1,a2,show (32:Nat)=4*n+(4+(28 - 4*n)) from by omega,zbM,Nat.zero_add,zbM]
theorem cAt_ok (hlen:∀ E,jf E) {h:Nat} (ha:TE.Ok E Tryz.prog 133 (atE 2100 p h)):zi E Tryz.prog (cAt p h):=
 zbz (zcl (hlen E)) 0 (tl_ok (fun s hs=>by rw[List.mem_singleton.1 hs];exact ha) (zaq (hlen E)))
theorem fd_ok (hlen:∀ E,jf E) (hp:p<8) (hg:∀ j,j<32->E.i (2100+j)=g j) (hR:RL g) {h:Nat} (hh:h<=8) (ha:TE.Ok E Tryz.prog 133 (atE 2100 p h)) (hit:h<8->Hit g p h):TE.Ok E Tryz.prog 133 (fdE p (Nat.blt h 8)):=by
 have hr:=Nat.eq_of_beq_eq_true (rng_ok (rng_ok fd_run p hp) h (by omega))
 have hv:(fdV h).bd 1:=by
  unfold fdV
  cases Nat.blt h 8 <;> exact⟨trivial,trivial,trivial,trivial⟩
 have te:=zcs (E:=E) (P:=Tryz.prog) (cAt_ok hlen ha) FaOk.nil hr ⟨trivial,trivial,trivial⟩ (zcm 2100) hv (zcm 2100)
 refine zeJ te (fun ρ=>rfl) (fun ρ=>rfl) (fun ρ=>?_) (fun ρ=>rfl) ⟨trivial,trivial,trivial⟩ (by cases Nat.blt h 8 <;> exact⟨trivial,trivial,trivial,trivial⟩) (zcm 2100)
 show V.γ E ρ (bc (Nat.blt h 8) _ _)=V.γ E ρ (fdV h)
 unfold fdV
 by_cases h8:h<8
 ·rw[show Nat.blt h 8=true by rw[Nat.blt_eq];exact h8]
  have ht:=hit h8
  obtain⟨q,hq,e0,e1,e2,e3⟩:=(hR h h8).right (by rw[ht.1];omega)
  have:q=p:=by have:=ht.2;omega
  subst this
  have a1:E.i (2102+4*h)=(baP q:Nat):=by rw[show 2102+4*h=2100+(4*h+2) from by omega,hg _ (by omega),e2]
  have a2:E.i (2103+4*h)=3:=by rw[show 2103+4*h=2100+(4*h+3) from by omega,hg _ (by omega),e3]
  show Value.tuple #[.int .i64 (baP q:Nat),.int .i64 3,.bool true]=Value.tuple #[.int .i64 (E.i (2102+4*h)),.int .i64 (E.i (2103+4*h)),.bool true]
  rw[a1,a2]
 ·rw[show Nat.blt h 8=false by rw[Bool.eq_false_iff];intro h2;rw[Nat.blt_eq]at h2;exact h8 h2]
  rfl
def lnG (p k:Nat):Int:=if k=0 then 8 else if k=1 then p else if k=2 then (baP p:Nat) else 3
def fiG (g:Nat->Int) (n p j:Nat):Int:=if j / 4=n then lnG p (j % 4) else g j
theorem RL_fi (hR:RL g) (n:Nat) (hp:p<8):RL (fiG g n p):=fun i hi=>by
 have d:∀ k,k<4->fiG g n p (4*i+k)=if i=n then lnG p k else g (4*i+k):=fun k hk=>by
  unfold fiG
  rw[show (4*i+k) / 4=i from by omega,show (4*i+k) % 4=k from by omega]
 have d0:=d 0 (by omega)
 rw[Nat.add_zero]at d0
 unfold LnOk
 rw[d0,d 1 (by omega),d 2 (by omega),d 3 (by omega)]
 by_cases e:i=n
 ·rw[if_pos e,if_pos e,if_pos e,if_pos e]
  exact .inr ⟨p,hp,rfl,rfl,rfl,rfl⟩
 ·rw[if_neg e,if_neg e,if_neg e,if_neg e]
  exact hR i hi
theorem fi_ok (hlen:∀ E,jf E) (hp:p<8) {n:Nat} (hn:n<8) (h21:E.i 21=(n:Nat)) (h22:∀ j,j<32->E.i (2200+j)=fiG (fun j=>E.i (2100+j)) n p j) (ha:TE.Ok E Tryz.prog 133 (atE 2100 p 8)):TE.Ok E Tryz.prog 133 (fiE p):=by
 have hr:=Nat.eq_of_beq_eq_true (rng_ok (rng_ok fi_run p hp) n hn)
 have hb:bdL 1 (zba 2100 (4*n) ++ (lnA p ++ zba (2104+4*n) (28 - 4*n))):=zae (zcC _ _) (zae ⟨trivial,trivial,trivial,trivial,trivial⟩ (zcC _ _))
 have te:=zcs (E:=E) (P:=Tryz.prog) (cAt_ok hlen ha) FaOk.nil hr ⟨⟨trivial,trivial,trivial,trivial,trivial⟩,trivial,trivial⟩ (zcm 2100) trivial hb
 refine zeJ te (fun ρ=>?_) (fun ρ=>rfl) (fun ρ=>rfl) (fun ρ=>?_) ⟨⟨trivial,trivial,trivial,trivial,trivial⟩,trivial,trivial⟩ trivial (zcm 2200)
 ·show [Value.agg (γL E ρ (lnA p)).toArray,Value.int .i64 (E.i 21)]=[Value.agg (γL E ρ (lnA p)).toArray,Value.int .i64 (n:Nat)]
  rw[h21]
 ·show γL E ρ (cel 2200)=γL E ρ (zba 2100 (4*n) ++ (lnA p ++ zba (2104+4*n) (28 - 4*n)))
  obtain⟨G,hG⟩:∃ G,G=fiG (fun j=>E.i (2100+j)) n p:=⟨_,rfl⟩
  have z:∀ k,k<4->G (4*n+k)=lnG p k:=fun k hk=>by
   rw[hG]
   show (if (4*n+k) / 4=n then lnG p ((4*n+k) % 4) else _)=_
   rw[if_pos (by omega),show (4*n+k) % 4=k from by omega]
  have z0:=z 0 (by omega)
  rw[Nat.add_zero]at z0
  have aL:γL E ρ (lnA p)=lnF G (4*n) 4:=by
   show [Value.int .i64 8,Value.int .i64 (p:Nat),Value.int .i64 (baP p:Nat),Value.int .i64 3]=[Value.int .i64 (G (4*n)),Value.int .i64 (G (4*n+1)),Value.int .i64 (G (4*n+1+1)),Value.int .i64 (G (4*n+1+1+1))]
   rw[z0,z 1 (by omega),show 4*n+1+1=4*n+2 from by omega,z 2 (by omega),show 4*n+2+1=4*n+3 from by omega,z 3 (by omega)]
   rfl
  rw[zvI (g:=G) (fun j hj=>by rw[hG];exact h22 j hj),γL_append,γL_append,aL]
  have a1:γL E ρ (zba 2100 (4*n))=lnF G 0 (4*n):=zbS (B:=2100) (4*n) 0 (fun j _ h=>by rw[hG];exact(if_neg (by omega)).symm)
  have a2:γL E ρ (zba (2104+4*n) (28 - 4*n))=lnF G (4*n+4) (28 - 4*n):=by
   rw[show 2104+4*n=2100+(4*n+4) from by omega]
   exact zbS (B:=2100) _ _ (fun j h1 h2=>by rw[hG];exact(if_neg (by omega)).symm)
  rw[a1,a2,show (32:Nat)=4*n+(4+(28 - 4*n)) from by omega,zbM,Nat.zero_add,zbM]
theorem zuN {es:List TE} (he:∀ s∈es,TE.Ok E Tryz.prog 133 s) (G:Nat):zi E Tryz.prog (fun G' l h fa k=>bc (Nat.beq G' G) (tlH es G l h fa k) 1):=by
 intro G' l h fa k hk hfa
 obtain⟨e,hk⟩:=zn (show bc (Nat.beq G' G) (tlH es G l h fa k) 1=0 from hk) (by simp)
 have e:G'=G:=by simpa using e
 subst e
 exact tl_ok he zvL G' l h fa k hk hfa
theorem zBo (hlen:∀ E,jf E) {es:List TE} (he:∀ s∈es,TE.Ok E Tryz.prog 133 s):zi E Tryz.prog (callQ es):=by
 have hT:CxOk E Tryz.prog (zr Tryz.prog) (cxT es):=⟨zx,ym,fun F i h=>zbr h,yi (C:=fun F=>bc (Nat.beq F 278) (some (tlH es 278)) (bc (Nat.beq F 280) (some (tlH es 280)) (hkR1 F))) (zuN he 141) (yi (C:=fun F=>bc (Nat.beq F 280) (some (tlH es 280)) (hkR1 F)) (zuN he 278) (yi (C:=fun F=>hkR1 F) (zuN he 280) (zl6 (hlen E))))⟩
 have hTT:zi E Tryz.prog (zvJ es):=jI hT 100
 have hQ:CxOk E Tryz.prog (zr Tryz.prog) (cxQ es):=⟨zx,ym,fun F i h=>zbr h,yi (C:=fun F=>hkT es F) (dfn_ok zx ym hTT (zi1 hT hTT) Tryz.func9 Tryz.call9 cx9 (drB wx9)) hT.hook⟩
 exact jI hQ 100
def I64 (x:Int):Prop:=-9223372036854775808<=x/\x<=9223372036854775807
theorem cT_ok (hlen:∀ E,jf E) {a:Nat} {h:Bool} (h1:I64 (E.i 11)) (h2:I64 (E.i 14)) (h3:I64 (E.i 13)) (ha:jm (E.i 11) 128=(a:Nat)) (h20:E.i 20=jm (E.i 14) 8) (h21:E.i 21=jm (E.i 13) 8) (he:∀ s∈esM (a / 16) h,TE.Ok E Tryz.prog 133 s):zi E Tryz.prog (cT a h):=by
 refine zdX (v:=.i .i64 (.ofNat a)) Tryz.call8 (fun E' _=>zcl (hlen E')) (fun E' _=>zaq (hlen E')) pk128_0 pk128_1 h1 trivial (fun ρ=>by simp only[V.γ,ha];rfl) ?_
 refine zdX (v:=si 20) Tryz.call8 (fun E' _=>zcl (hlen E')) (fun E' _=>zaq (hlen E')) pk8_0 pk8_1 h2 trivial (fun ρ=>by simp only[si,V.γ,SE.den,h20]) ?_
 exact zdX (v:=si 21) Tryz.call8 (fun E' _=>zcl (hlen E')) (fun E' _=>zaq (hlen E')) pk8_0 pk8_1 h3 trivial (fun ρ=>by simp only[si,V.γ,SE.den,h21]) (zBo hlen he)
structure Tch where
 s:Bool
 a:Int
 w:Int
 f:Int
 o:Int
structure Tch.Ok (x:Tch):Prop where
 a:I64 x.a
 f:I64 x.f
 o:I64 x.o
structure RowTc (r:Row) (D:Nat->Tch):Prop where
 esz:r.esz=5
 c:∀ i,i<r.len->r.cs[r.off+i*5+0]? = some (.bool (D i).s)/\r.cs[r.off+i*5+1]? = some (.int .i64 (D i).a)/\r.cs[r.off+i*5+2]? = some (.int .u64 (D i).w)/\r.cs[r.off+i*5+3]? = some (.int .i64 (D i).f)/\r.cs[r.off+i*5+4]? = some (.int .i64 (D i).o)/\(D i).Ok
theorem zwe {v:Nat} {h:H} (hr:rowT v h=true) (hv:v≠0->E.i 2=(E.s 0).idx/\(E.s 0).idx<(E.s 0).len/\∃ D,RowTc (E.s 0) D/\(D (E.s 0).idx).s=Nat.beq v 2/\E.i 11=(D (E.s 0).idx).a/\E.i 3=(D (E.s 0).idx).w/\E.i 13=(D (E.s 0).idx).f/\E.i 14=(D (E.s 0).idx).o):∀ p o,h.t.get p=some o->zw2 E o:=by
 intro p o hp
 unfold rowT at hr
 rw[jX]at hr
 have:=zds _ _ p o hr hp
 cases o with
 | row q z N I l=>
  simp only[Bool.and_eq_true,Nat.beq_eq]at this
  obtain⟨⟨⟨rfl,rfl⟩,hI⟩,hl'⟩:=this
  have hI:=SE.beq_eq hI
  have hl':=jl hl'
  subst hI;subst hl'
  intro hne
  have v0:v≠0:=fun h=>by subst h;exact hne rfl
  obtain⟨h2,hl,D,hD,e0,e1,e2,e3,e4⟩:=hv v0
  obtain⟨c0,c1,c2,c3,c4,_⟩:=hD.c _ hl
  have hrv:rowV v=[.b (Nat.beq v 2),.si .i64 (.v 11),.si .u64 (.v 3),.si .i64 (.v 13),.si .i64 (.v 14)]:=by
   unfold rowV
   rw[show Nat.beq v 0=false by rw[Bool.eq_false_iff];intro h;exact v0 (by simpa using h)]
   rfl
  rw[hrv]
  refine⟨h2,hl,rfl,fun ρ i hi=>?_⟩
  have:i=0\/i=1\/i=2\/i=3\/i=4:=by
   have:i<5:=hi
   omega
  rcases this with rfl | rfl | rfl | rfl | rfl
  ·rw[c0,e0];rfl
  ·rw[c1,<- e1];rfl
  ·rw[c2,<- e2];rfl
  ·rw[c3,<- e3];rfl
  ·rw[c4,<- e4];rfl
 | _=>trivial
structure InvT (m j:Nat) (E:Env):Prop where
 j3:j<3
 len:E.i 1=(E.s 0).len
 row:∃ D,RowTc (E.s 0) D
 i0:0<=E.i 2
 m:(m:Int)+E.i 2=200
 rl:RL (fun j=>E.i (2000+j))
 stop:j=0->¬ (E.i 2<E.i 1/\E.i 2<200)
 go:j≠0->(E.i 2<E.i 1/\E.i 2<200)/\I64 (E.i 11)/\I64 (E.i 13)/\I64 (E.i 14)/\E.i 20=jm (E.i 14) 8/\E.i 21=jm (E.i 13) 8 /\
  (∀ k,k<32->E.i (2100+k)=evG (fun j=>E.i (2000+j)) (E.i 20).toNat k)/\(∀ k,k<32->E.i (2200+k)=fiG (fun j=>E.i (2100+j)) (E.i 21).toNat ((jm (E.i 11) 128).toNat / 16) k)
def vsT (x:Tch) (g:Nat->Int) (i:Nat):Int:=
 if i=3 then x.w else if i=11 then x.a else if i=13 then x.f else if i=14 then x.o else if i=20 then jm x.o 8 else if i=21 then jm x.f 8
 else if i<2132 then evG g (jm x.o 8).toNat (i - 2100) else fiG (evG g (jm x.o 8).toNat) (jm x.f 8).toNat ((jm x.a 128).toNat / 16) (i - 2200)
theorem leadT {σ:Sg} {m:Nat} {s2:SE} {x:Int} (g1:σ 1=some (.v 1)) (g2:σ 2=some s2) (hx:s2.den E=x) (hx0:0<=x) (hxB:x<=200) (gn:∀ i,i=3\/i=11\/i=13\/i=14\/i=20\/i=21\/(2100<=i/\i<2232)->σ i=none)
  (gl:∀ k,k<32->∃ s,σ (2000+k)=some s/\s.den E=g k) (hR:RL g) (hlen:E.i 1=(E.s 0).len) (hD:∃ D,RowTc (E.s 0) D) (hm:200 - x<m):zf2 stM InvT E (nxM σ) m:=by
 intro _
 obtain⟨D,hD⟩:=hD
 obtain⟨y,hy⟩:∃ y,y=D x.toNat:=⟨_,rfl⟩
 obtain⟨E',hE'⟩:∃ E',E'=nxA σ E x (vsT y g) (fun _=>E.s 0):=⟨_,rfl⟩
 have t:TrE σ E E':=by rw[hE'];exact nxA_tr σ E x _ _
 have e1:E'.i 1=E.i 1:=t.i 1 _ g1
 have e2:E'.i 2=x:=(t.i 2 _ g2).trans hx
 have ev:∀ i,σ i=none->E'.i i=vsT y g i:=fun i hi=>by rw[hE'];show (match σ i with | some s=>s.den E | none=>_)=_;rw[hi]
 have es:E'.s 0={ E.s 0 with idx:=x.toNat }:=by rw[hE'];rfl
 have el:∀ k,k<32->E'.i (2000+k)=g k:=fun k hk=>by
  obtain⟨s,h1,h2⟩:=gl k hk
  exact(t.i _ _ h1).trans h2
 have eR:RL (fun j=>E'.i (2000+j)):=fun i hi=>by
  have:=hR i hi
  unfold LnOk at this ⊢
  simp only[el (4*i) (by omega),el (4*i+1) (by omega),el (4*i+2) (by omega),el (4*i+3) (by omega)]
  exact this
 have hlen':E'.i 1=(E'.s 0).len:=by rw[e1,es];exact hlen
 have hD':RowTc (E'.s 0) D:=by rw[es];exact⟨hD.esz,hD.c⟩
 have r3:=ev 3 (gn 3 (by omega))
 have r11:=ev 11 (gn 11 (by omega))
 have r13:=ev 13 (gn 13 (by omega))
 have r14:=ev 14 (gn 14 (by omega))
 have r20:=ev 20 (gn 20 (by omega))
 have r21:=ev 21 (gn 21 (by omega))
 have q3:E'.i 3=y.w:=r3
 have q11:E'.i 11=y.a:=r11
 have q13:E'.i 13=y.f:=r13
 have q14:E'.i 14=y.o:=r14
 have q20:E'.i 20=jm y.o 8:=r20
 have q21:E'.i 21=jm y.f 8:=r21
 have l21:∀ k,k<32->E'.i (2100+k)=evG g (jm y.o 8).toNat k:=fun k hk=>by
  rw[ev (2100+k) (gn _ (by omega))]
  unfold vsT
  rw[if_neg (by omega),if_neg (by omega),if_neg (by omega),if_neg (by omega),if_neg (by omega),if_neg (by omega),if_pos (by omega),show 2100+k - 2100=k from by omega]
 have l22:∀ k,k<32->E'.i (2200+k)=fiG (evG g (jm y.o 8).toNat) (jm y.f 8).toNat ((jm y.a 128).toNat / 16) k:=fun k hk=>by
  rw[ev (2200+k) (gn _ (by omega))]
  unfold vsT
  rw[if_neg (by omega),if_neg (by omega),if_neg (by omega),if_neg (by omega),if_neg (by omega),if_neg (by omega),if_neg (by omega),show 2200+k - 2200=k from by omega]
 by_cases hk:x<(E.s 0).len/\x<200
 ·have hlt:x.toNat<(E.s 0).len:=by omega
  obtain⟨_,_,_,_,_,hok⟩:=hD.c x.toNat hlt
  rw[<- hy]at hok
  obtain⟨j,hj,hjs⟩:∃ j,(j=1\/j=2)/\y.s=Nat.beq j 2:=by
   cases y.s with
   | false=>exact⟨1,.inl rfl,rfl⟩
   | true=>exact⟨2,.inr rfl,rfl⟩
  have hr:rowT j (stM j).h=true:=by
   rcases hj with rfl | rfl
   ·exact zfk.2.1
   ·exact zfk.2.2
  refine⟨j,σ,(200 - x).toNat,E',?_,by omega,⟨by omega,hlen',⟨D,hD'⟩,by rw[e2];exact hx0,by rw[e2];omega,eR,fun h=>by omega,fun _=>⟨⟨by rw[e1,e2,hlen];exact hk.1,by rw[e2];exact hk.2⟩,by rw[q11];exact hok.a,by rw[q13];exact hok.f,by rw[q14];exact hok.o,by rw[q20,q14],by rw[q21,q13],fun k hk=>?_,fun k hk=>?_⟩⟩,t,zwe hr (fun _=>⟨?_,?_,D,hD',?_⟩)⟩
  ·unfold nxM
   rcases hj with rfl | rfl <;> simp
  ·rw[l21 k hk,q20]
   unfold evG
   split
   ·rfl
   ·exact(el k hk).symm
  ·rw[l22 k hk,q21,q11]
   unfold fiG
   split
   ·rfl
   ·exact(l21 k hk).symm
  ·rw[e2,es]
   show x=((x.toNat:Nat):Int)
   omega
  ·rw[es];exact hlt
  ·rw[es]
   show (D x.toNat).s=_/\_
   rw[<- hy]
   exact⟨hjs,q11,q3,q13,q14⟩
 ·exact⟨0,σ,(200 - x).toNat,E',by simp[nxM],by omega,⟨by omega,hlen',⟨D,hD'⟩,by rw[e2];exact hx0,by rw[e2];omega,eR,fun _ h=>hk ⟨by rw[e1,e2,hlen]at h;exact h.1,by rw[e2]at h;exact h.2⟩,fun h=>absurd rfl h⟩,t,zwe zfk.1 (fun h=>absurd rfl h)⟩
theorem zx0 (g:Nat->Int) (p:Nat):∃ h,h<=8/\(∀ k,k<h->¬ Hit g p k)/\(h<8->Hit g p h):=by
 have:∀ n,n<=8->(∀ k,k<8 - n->¬ Hit g p k)->∃ h,h<=8/\(∀ k,k<h->¬ Hit g p k)/\(h<8->Hit g p h):=by
  intro n
  induction n with
  | zero=>exact fun _ h=>⟨8,Nat.le_refl _,h,fun h=>absurd h (by omega)⟩
  | succ n ih=>
   intro hn h
   by_cases hh:Hit g p (8 - (n+1))
   ·exact⟨8 - (n+1),by omega,h,fun _=>hh⟩
   ·refine ih (by omega) (fun k hk=>?_)
    by_cases e:k=8 - (n+1)
    ·rw[e];exact hh
    ·exact h k (by omega)
 exact this 8 (Nat.le_refl _) (fun k hk=>by omega)
theorem faM_ok (h1:E.i 2<E.i 1) (h2:E.i 2<200) (h20:0<=E.i 20/\E.i 20<8) (h21:0<=E.i 21/\E.i 21<8):FaOk E faM:=by
 have e21:v21e.den E=E.i 21:=by
  have a1:=den_cvu (E:=E) (e:=.v 21) (x:=E.i 21) rfl h21.1 (by omega)
  have a2:(SE.op .rem .u64 (.cv .u64 (.v 21)) (.lit 8)).den E=E.i 21:=by
   show ((SE.cv .u64 (.v 21)).den E).tmod 8=_
   rw[a1,Int.tmod_eq_emod_of_nonneg h21.1]
   omega
  exact den_cvi a2 h21.1 (by omega)
 have er:(SE.op .rem .i64 (.v 21) (.lit 1)).den E=0:=by
  show (E.i 21).tmod 1=0
  rw[Int.tmod_eq_emod_of_nonneg h21.1]
  omega
 refine⟨fun c b hm=>?_,fun i lo hi hm=>?_⟩
 ·simp only[faM,fsM,List.mem_cons,Prod.mk.injEq,List.not_mem_nil,or_false]at hm
  rcases hm with ⟨rfl,rfl⟩ | ⟨rfl,rfl⟩ | ⟨rfl,rfl⟩ | ⟨rfl,rfl⟩
  ·exact zmD rfl rfl (decide_eq_true h1)
  ·exact zmD rfl rfl (decide_eq_true h2)
  ·show (!((zbs .neq (v21e.den E) (E.i 21)).getD false))=true
   rw[e21]
   show (!(!(iEq (E.i 21) (E.i 21))))=true
   rw[jb,decide_eq_true rfl];rfl
  ·show (zbs .eql ((SE.op .rem .i64 (.v 21) (.lit 1)).den E) 0).getD false=true
   rw[er];rfl
 ·simp only[faM,List.mem_cons,Prod.mk.injEq,List.not_mem_nil,or_false]at hm
  rcases hm with ⟨rfl,rfl,rfl⟩ | ⟨rfl,rfl,rfl⟩
  ·omega
  ·omega
theorem sgM_n {a:Nat} {s h:Bool} {i:Nat} (hi:i=3\/i=11\/i=13\/i=14\/i=20\/i=21\/(2100<=i/\i<2232)):sgM a s h i=none:=by
 have nb:∀ k,i≠k->Nat.beq i k=false:=fun k hk=>by rw[Bool.eq_false_iff];intro h;exact hk (by simpa using h)
 unfold sgM
 rw[nb 1 (by omega),nb 2 (by omega),nb 5 (by omega),nb 9 (by omega)]
 show bc (Nat.blt i 1000) none _=none
 by_cases h1:i<1000
 ·rw[show Nat.blt i 1000=true by rw[Nat.blt_eq];exact h1];rfl
 ·have nl:∀ k,¬ i<k->Nat.blt i k=false:=fun k hk=>by rw[Bool.eq_false_iff];intro h;rw[Nat.blt_eq]at h;exact hk h
  rw[nl 1000 h1,nl 1128 (by omega),nl 2000 (by omega),nl 2032 (by omega)]
  rfl
theorem sgM_l {a:Nat} {s h:Bool} {k:Nat} (hk:k<32):sgM a s h (2000+k)=some (.v (2000+k+bc h 100 200)):=by
 have nb:∀ j,2000+k≠j->Nat.beq (2000+k) j=false:=fun j hj=>by rw[Bool.eq_false_iff];intro h;exact hj (by simpa using h)
 have nl:∀ j,¬ 2000+k<j->Nat.blt (2000+k) j=false:=fun j hj=>by rw[Bool.eq_false_iff];intro h;rw[Nat.blt_eq]at h;exact hj h
 unfold sgM
 rw[nb 1 (by omega),nb 2 (by omega),nb 5 (by omega),nb 9 (by omega),nl 1000 (by omega),nl 1128 (by omega),nl 2000 (by omega),show Nat.blt (2000+k) 2032=true by rw[Nat.blt_eq];omega]
 rfl
theorem sgI_n {i:Nat} (hi:i=3\/i=11\/i=13\/i=14\/i=20\/i=21\/(2100<=i/\i<2232)):sgI i=none:=by
 have nb:∀ k,i≠k->Nat.beq i k=false:=fun k hk=>by rw[Bool.eq_false_iff];intro h;exact hk (by simpa using h)
 unfold sgI
 rw[nb 1 (by omega),nb 2 (by omega),nb 5 (by omega),nb 9 (by omega)]
 show bc (Nat.blt i 1000) none _=none
 by_cases h1:i<1000
 ·rw[show Nat.blt i 1000=true by rw[Nat.blt_eq];exact h1];rfl
 ·have nl:∀ k,¬ i<k->Nat.blt i k=false:=fun k hk=>by rw[Bool.eq_false_iff];intro h;rw[Nat.blt_eq]at h;exact hk h
  rw[nl 1000 h1,nl 1128 (by omega),nl 2000 (by omega),nl 2032 (by omega)]
  rfl
theorem sgI_l {k:Nat} (hk:k<32):sgI (2000+k)=some (.lit 0):=by
 have nb:∀ j,2000+k≠j->Nat.beq (2000+k) j=false:=fun j hj=>by rw[Bool.eq_false_iff];intro h;exact hj (by simpa using h)
 have nl:∀ j,¬ 2000+k<j->Nat.blt (2000+k) j=false:=fun j hj=>by rw[Bool.eq_false_iff];intro h;rw[Nat.blt_eq]at h;exact hj h
 unfold sgI
 rw[nb 1 (by omega),nb 2 (by omega),nb 5 (by omega),nb 9 (by omega),nl 1000 (by omega),nl 1128 (by omega),nl 2000 (by omega),show Nat.blt (2000+k) 2032=true by rw[Nat.blt_eq];omega]
 rfl
theorem zlH (hlen:∀ E,jf E) {m j:Nat} (hI:InvT m j E):∃ g fa nx,zi E Tryz.prog g.call/\FaOk E fa/\runJ stM qC.x qC.z (koB qC.rs) g j fa nx=0/\zf2 stM InvT E nx m:=by
 by_cases j0:j=0
 ·subst j0
  have hn:=hI.stop rfl
  have fin:∀ b,(∀ c∈fsE b,SB.den E c.1=c.2)->∃ g fa nx,zi E Tryz.prog g.call/\FaOk E fa/\runJ stM qC.x qC.z (koB qC.rs) g 0 fa nx=0/\zf2 stM InvT E nx m:=
   fun b hb=>⟨gE,_,[],zaq (hlen E),fa_all hb,(zfi ..).symm.trans (e_run b),fun h=>absurd rfl h⟩
  by_cases h:E.i 2<E.i 1
  ·refine fin true ?_
   show ∀ c∈[_,_],_
   simp only[List.mem_cons,List.not_mem_nil,or_false,forall_eq_or_imp,forall_eq]
   exact⟨zmD rfl rfl (decide_eq_true h),zmD rfl rfl (decide_eq_false (fun h2=>hn ⟨h,h2⟩))⟩
  ·refine fin false ?_
   show ∀ c∈[_],_
   simp only[List.mem_cons,List.not_mem_nil,or_false,forall_eq]
   exact zmD rfl rfl (decide_eq_false h)
 ·obtain⟨⟨k1,k2⟩,b11,b13,b14,e20,e21,l21,l22⟩:=hI.go j0
  obtain⟨p1,p2⟩:=zfu (c:=E.i 11) (n:=128) (by omega)
  obtain⟨p3,p4⟩:=zfu (c:=E.i 14) (n:=8) (by omega)
  obtain⟨p5,p6⟩:=zfu (c:=E.i 13) (n:=8) (by omega)
  obtain⟨a,ha⟩:=Int.eq_ofNat_of_zero_le p1
  have ha128:a<128:=by omega
  have ep:(jm (E.i 11) 128).toNat / 16=a / 16:=by rw[ha];rfl
  rw[ep]at l22
  have hp:a / 16<8:=by omega
  obtain⟨s,hs⟩:∃ s:Bool,j=bc s 2 1:=by
   have:=hI.j3
   rcases (by omega:j=1\/j=2) with rfl | rfl
   ·exact⟨false,rfl⟩
   ·exact⟨true,rfl⟩
  obtain⟨n,hn⟩:∃ n,n=(E.i 20).toNat:=⟨_,rfl⟩
  obtain⟨u,hu⟩:∃ u,u=(E.i 21).toNat:=⟨_,rfl⟩
  have n20:E.i 20=(n:Nat):=by omega
  have n21:E.i 21=(u:Nat):=by omega
  rw[<- hn]at l21
  rw[<- hu]at l22
  obtain⟨g,hg⟩:∃ g:Nat->Int,g=fun j=>E.i (2100+j):=⟨_,rfl⟩
  have gR:RL g:=fun i hi=>by
   have:=RL_ev hI.rl n i hi
   unfold LnOk at this ⊢
   rw[hg]
   simp only[l21 (4*i) (by omega),l21 (4*i+1) (by omega),l21 (4*i+2) (by omega),l21 (4*i+3) (by omega)]
   exact this
  have gv:∀ j,j<32->E.i (2100+j)=g j:=fun j _=>by rw[hg]
  obtain⟨h,hh,no,hit⟩:=zx0 g (a / 16)
  have tev:=ev_ok (E:=E) hlen (by omega) n20 l21
  have tat:=at_ok (E:=E) hlen gv gR hh no hit
  have tfd:=fd_ok (E:=E) hlen hp gv gR hh tat hit
  have fa:=faM_ok k1 k2 (by omega) (by omega)
  have lead:∀ (b:Bool) (G:Nat->Int),(∀ k,k<32->E.i (2000+k+bc b 100 200)=G k)->RL G->zf2 stM InvT E (nxM (sgM a s b)) m:=fun b G hG hR=>by
   refine leadT (g:=G) (x:=E.i 2+1) rfl rfl ?_ (by have:=hI.i0;omega) (by omega) (fun i hi=>sgM_n hi) (fun k hk=>⟨_,sgM_l hk,hG k hk⟩) hR hI.len hI.row (by have:=hI.m;omega)
   show jS .i64 (E.i 2+1)=_
   have:=hI.i0
   rw[z6,IntKind.wrap_i64];omega
  by_cases h8:h<8
  ·have hb:Nat.blt h 8=true:=by rw[Nat.blt_eq];exact h8
   rw[hb]at tfd
   refine⟨gM a true,faM,nxM (sgM a s true),cT_ok hlen b11 b14 b13 ha e20 e21 ?_,fa,?_,lead true g (fun k hk=>by show E.i (2000+k+100)=_;rw[show 2000+k+100=2100+k from by omega];exact gv k hk) gR⟩
   ·intro t ht
    rcases List.mem_cons.1 (show t∈[evE,fdE (a / 16) true] from ht) with rfl | ht
    ·exact tev
    ·rw[List.mem_singleton.1 ht];exact tfd
   ·rw[hs];exact(zfi ..).symm.trans (tm_all a s true ha128)
  ·have h9:h=8:=by omega
   subst h9
   have tfi:=fi_ok (E:=E) hlen hp (by omega) n21 l22 tat
   refine⟨gM a false,faM,nxM (sgM a s false),cT_ok hlen b11 b14 b13 ha e20 e21 ?_,fa,?_,lead false (fiG g u (a / 16)) (fun k hk=>by show E.i (2000+k+200)=_;rw[show 2000+k+200=2200+k from by omega,hg];exact l22 k hk) (RL_fi gR u hp)⟩
   ·intro t ht
    rcases List.mem_cons.1 (show t∈[evE,fdE (a / 16) false,fiE (a / 16)] from ht) with rfl | ht
    ·exact tev
    ·rcases List.mem_cons.1 ht with rfl | ht
     ·exact tfd
     ·rw[List.mem_singleton.1 ht];exact tfi
   ·rw[hs];exact(zfi ..).symm.trans (tm_all a s false ha128)
theorem mem_law (hlen:∀ E,jf E) (hl:E.i 1=(E.s 0).len) (hD:∃ D,RowTc (E.s 0) D) {ρ:Rho} {w:World} (hs:Sat E ρ hR5 w) (zas:∀ p o,hR5.t.get p=some o->o.live=true->hR5.lo.toNat<=p.toNat->w.heap.size<=(ρ p).b) :
  Calls Tryz.prog 3 (γL E ρ [.fs .h 0]).toArray w fun e w'=>e=.returned (.bool true)/\Below w.heap.size w w':=
 zBh zx ym Tryz.func3 qcut w3 (st:=stM) (Inv:=InvT) (fun m j E hI=>zlH hlen hI) (g0:=⟨zup,3,20000⟩) (zuo (zcl (hlen E)) (zaq (hlen E))) FaOk.nil 201
  (leadT (g:=fun _=>0) (x:=0) rfl rfl rfl (by omega) (by omega) (fun i hi=>sgI_n hi) (fun k hk=>⟨_,sgI_l hk,rfl⟩) (fun i hi=>.inl ⟨rfl,rfl,rfl,rfl⟩) hl hD (by omega)) i_run hs ⟨(by show (1:Nat)<2;decide),trivial⟩ zas
end Go.Ev.X
end
