import Derived.Test.YtcinokgfjdifbaaGreatMHb
import Derived.Test.YtcinokgfjdifbaaGreatMHc
import Derived.Test.YtcinokgfjdifbaaGreatMHd
import Derived.Test.YtcinokgfjdifbaaGreatMHe
set_option linter.unusedSimpArgs false
set_option linter.unusedVariables false
set_option maxRecDepth 100000
noncomputable section
namespace Go.Ev.X
open Go Go.Ev Go.Proofs Go.RowKit
variable {TT:Nat->Prop} [SubT TT]
variable {E:Env} {f:Nat->Int} {Q:Nat->List Nat} {t:Nat}
theorem hrun_ok {i:Nat} (h:i<256):zr i=0:=by
 have go:∀ {o:Nat},zW (fun i=>Nat.beq (zr (o+i)) 0) (rng 32)=true->o<=i->i<o+32->zr i=0:=fun {o} hr h1 h2=>by
  have:=Nat.eq_of_beq_eq_true (rng_ok hr (i - o) (by omega))
  rw[show o+(i - o)=i from by omega]at this
  exact this
 by_cases h0:i<32
 ·exact go hrr0 (by omega) (by omega)
 by_cases h1:i<64
 ·exact go hrr1 (by omega) (by omega)
 by_cases h2:i<96
 ·exact go hrr2 (by omega) (by omega)
 by_cases h3:i<128
 ·exact go hrr3 (by omega) (by omega)
 by_cases h4:i<160
 ·exact go hrr4 (by omega) (by omega)
 by_cases h5:i<192
 ·exact go hrr5 (by omega) (by omega)
 by_cases h6:i<224
 ·exact go hrr6 (by omega) (by omega)
 exact go hrr7 (by omega) (by omega)
theorem high_r (h:QInv TT f Q) {o:Option Nat} (ht:Top Q o):zJ PP cR 74 [] f (.int .i64 (topH Q o)) f:=by
 have hw:∀ p,p<256->W64 (f (256+p)):=fun p hp=>(zbj zd h hp).1
 cases ht with
 | none hz=>
  refine⟨255+1,by omega,zD hC0 (by decide) hrZ_run rfl (hrVs 0) (fun _=>f) fun st=>⟨zpn st _ _ 255 (by omega),zm trivial trivial,hrZ_ok hw 256 0 (by omega) (fun i hi=>?_),zn trivial,fun ρ=>rfl,fun ρ=>rfl⟩⟩
  rw[zA zd h (by omega),hz _ (by omega)];rfl
 | some p hp hne hab=>
  have hH:=zA zd h hp
  refine⟨(255 - p)+1,by omega,zD hC0 (by decide) (hrun_ok (i:=255 - p) (by omega)) rfl (hrVs (zl f p)) (fun _=>f) fun st=>⟨zpn st _ _ _ (by omega),zm ⟨?_,trivial⟩ trivial,hrL_ok hw _ 0 (by omega) (fun i hi=>?_) ?_,zn trivial,fun ρ=>rfl,fun ρ=>?_⟩⟩
  ·have:zl f p≠0:=by
    rw[hH]
    match hQ:Q p,hne with
    | t::r,_=>
     have:=zd.lo t (h.el p t hp (by rw[hQ];simp)).1
     show ((t:Nat):Int)≠0
     omega
   show (!iEq (zl f p) 0)=true
   rw[yL,decide_eq_false this];rfl
  ·rw[zA zd h (by omega),hab _ (by omega) (by omega)];rfl
  ·show zl f p=_
   rw[show 255 - (0+(255 - p))=p from by omega]
  ·show Value.int .i64 (zl f p)=_
   rw[hH];rfl
end Go.Ev.X
end
