import Derived.Test.YtcinokgfjdifbaaGreatMWy
set_option linter.unusedSimpArgs false
set_option linter.unusedVariables false
set_option maxRecDepth 100000
noncomputable section
namespace Go.Ev.X
open Go Go.Ev Go.Proofs Go.RowKit
variable {E:Env} {f:Nat->Int} {Q:Nat->List Nat} {t:Nat}
theorem ends_r1 {p:Nat} (hp:p<256) (hw:W64 (f (256+p))):zaO PP cR 99 [.int .i64 p] f (.tuple #[.int .i64 (zl f p),.int .i64 (zx f p)]) f 1:=by
 refine zD (k:=1) hC0 (by decide) (Nat.eq_of_beq_eq_true (rng_ok zjt p hp)) rfl (zfN f p) (fun _=>f) fun st=>⟨zc (k:=0) (m:=1) rfl rfl (by omega),zm trivial trivial,⟨zi (zhl (by omega) f) (by omega) rfl (fun ρ=>rfl) (fun ρ=>rfl),trivial⟩,zn trivial,fun ρ=>rfl,fun ρ=>?_⟩
 have v:SE.den (jA cR.N st (zfN f p) (fun _=>f)) (.v 100)=f (256+p):=rfl
 have e1:=yf (yw (m:=65536) v hw.1) (by omega) (by omega)
 have e2:=yf (yw (m:=65536) (yA (A:=65536) 16 rfl (by omega) v hw.1) (by have:=hw.1;omega)) (by omega) (by omega)
 exact tup2 (vsi e1) (vsi e2)
theorem zoi:yP cx0 cR (frE 99) [] 111 [.si .i64 (.v 1)] ⟨[((.cmp .lss (.v 1) (.lit 0)),false),((.cmp .gtr (.v 1) (.lit 255)),false)],[]⟩ (.si .i64 (.v 100)) 1 s1=0:=by decide +kernel
theorem ztQ {p:Nat} (hp:p<256) (hw:W64 (f (256+p))):zaO PP cR 111 [.int .i64 p] f (.int .i64 (zl f p)) f 1:=
 zD (k:=1) hC0 (by decide) zoi rfl (frVs f p 1) (fun _=>f) fun st=>⟨zc (k:=0) (m:=1) rfl rfl (by omega),zm ⟨zjq (show (0:Int)<=p by omega),f_gtn (show (p:Int)<=255 by omega),trivial⟩ trivial,
  ⟨zi (ends_r1 hp hw) (by omega) rfl (fun ρ=>rfl) (fun ρ=>rfl),trivial⟩,zn trivial,fun ρ=>rfl,fun ρ=>rfl⟩
def hrL:Nat->Nat->List Ent
 | 0,q=>[⟨111,[.i .i64 (.ofNat (255 - q))],q+1,.si .i64 (.v 500),.lit 1⟩]
 | n+1,q=>⟨111,[.i .i64 (.ofNat (255 - q))],q+1,.i .i64 0,.lit 1⟩::hrL n (q+1)
def hrS (n:Nat):SE:=.op .add .i64 (.v 5) (.lit (.ofNat n))
def fH:Fa:=⟨[((.cmp .neq (.v 500) (.lit 0)),true)],[]⟩
def zr (i:Nat):Nat:=yP cx0 cR (hrL i 0) [] 74 [] fH (.si .i64 (.v 500)) (i+1) (hrS (i+1))
def hrZ:Nat->Nat->List Ent
 | 0,_=>[]
 | n+1,q=>⟨111,[.i .i64 (.ofNat (255 - q))],q+1,.i .i64 0,.lit 1⟩::hrZ n (q+1)
theorem hrZ_run:yP cx0 cR (hrZ 256 0) [] 74 [] ⟨[],[]⟩ (.i .i64 0) 256 (hrS 256)=0:=by decide +kernel
def hrVs (h:Int):Nat->Int:=fun i=>match i / 100 with
 | 5=>h
 | _=>0
theorem zpn (st:Int) (vs:Nat->Int) (rows:Nat->Nat->Int) (n:Nat) (h:n<1000):(hrS (n+1)).den (jA cR.N st vs rows)=za9 st (n+1):=by
 unfold za9
 rw[if_neg (by omega)]
 rfl
theorem zof {st:Int} {vs:Nat->Int} {q:Nat} {v:V} (hq:q<256) (hw:W64 (f (256+(255 - q)))) (hv:∀ ρ,v.γ (jA cR.N st vs (fun _=>f)) ρ=.int .i64 (zl f (255 - q))) :
  zfl PP cR (jA cR.N st vs (fun _=>f)) q ⟨111,[.i .i64 (.ofNat (255 - q))],q+1,v,.lit 1⟩:=
 zi (k:=1) (ztQ (by omega) hw) (by omega) rfl (fun ρ=>rfl) hv
theorem hrL_ok {st:Int} {vs:Nat->Int} (hw:∀ p,p<256->W64 (f (256+p))):∀ (n q:Nat),n+q<256->(∀ i,i<n->zl f (255 - (q+i))=0)->vs 500=zl f (255 - (q+n))->zaW PP cR (jA cR.N st vs (fun _=>f)) q (hrL n q)
 | 0,q,h,_,hv=>⟨zof (by omega) (hw _ (by omega)) (fun ρ=>by
   show Value.int .i64 (vs 500)=_
   rw[hv];rfl),trivial⟩
 | n+1,q,h,hz,hv=>⟨zof (by omega) (hw _ (by omega)) (fun ρ=>by
   show Value.int .i64 0=_
   rw[show zl f (255 - q)=0 from hz 0 (by omega)]),
  hrL_ok hw n (q+1) (by omega) (fun i hi=>by rw[show q+1+i=q+(i+1) from by omega];exact hz _ (by omega)) (by rw[hv,show q+1+n=q+(n+1) from by omega])⟩
theorem hrZ_ok {st:Int} {vs:Nat->Int} (hw:∀ p,p<256->W64 (f (256+p))):∀ (n q:Nat),n+q<=256->(∀ i,i<n->zl f (255 - (q+i))=0)->zaW PP cR (jA cR.N st vs (fun _=>f)) q (hrZ n q)
 | 0,q,h,_=>trivial
 | n+1,q,h,hz=>⟨zof (by omega) (hw _ (by omega)) (fun ρ=>by
   show Value.int .i64 0=_
   rw[show zl f (255 - q)=0 from hz 0 (by omega)]),
  hrZ_ok hw n (q+1) (by omega) (fun i hi=>by rw[show q+1+i=q+(i+1) from by omega];exact hz _ (by omega))⟩
end Go.Ev.X
end
