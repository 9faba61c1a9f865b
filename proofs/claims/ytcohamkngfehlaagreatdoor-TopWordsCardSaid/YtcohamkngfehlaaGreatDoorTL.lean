import Derived.Test.YtcohamkngfehlaaGreatDoorTSa
set_option linter.unusedSimpArgs false
set_option linter.unusedVariables false
set_option maxRecDepth 100000
noncomputable section
namespace Go.Ev.X
open Go Go.Ev Go.Proofs
theorem all_t:∀ j v,j<2->v<3->tN j v<2
 | 0,0,_,_=>by decide
 | 0,1,_,_=>by decide
 | 0,2,_,_=>by decide
 | 1,0,_,_=>by decide
 | 1,1,_,_=>by decide
 | 1,2,_,_=>by decide
 | j,v+3,_,h=>absurd h (by omega)
 | j+2,0,h,_=>absurd h (by omega)
 | j+2,1,h,_=>absurd h (by omega)
 | j+2,2,h,_=>absurd h (by omega)
theorem all_1:∀ j v,j<2->v<3->sgA (sgN j v) 1=some (.v 1)
 | 0,0,_,_=>rfl
 | 0,1,_,_=>rfl
 | 0,2,_,_=>rfl
 | 1,0,_,_=>rfl
 | 1,1,_,_=>rfl
 | 1,2,_,_=>rfl
 | j,v+3,_,h=>absurd h (by omega)
 | j+2,0,h,_=>absurd h (by omega)
 | j+2,1,h,_=>absurd h (by omega)
 | j+2,2,h,_=>absurd h (by omega)
theorem all_8:∀ j v,j<2->v<3->sgA (sgN j v) 8=some (.v 8)
 | 0,0,_,_=>rfl
 | 0,1,_,_=>rfl
 | 0,2,_,_=>rfl
 | 1,0,_,_=>rfl
 | 1,1,_,_=>rfl
 | 1,2,_,_=>rfl
 | j,v+3,_,h=>absurd h (by omega)
 | j+2,0,h,_=>absurd h (by omega)
 | j+2,1,h,_=>absurd h (by omega)
 | j+2,2,h,_=>absurd h (by omega)
theorem all_2:∀ j v,j<2->v<3->sgA (sgN j v) 2=some (.op .add .i64 (.v 2) (.lit 1))
 | 0,0,_,_=>rfl
 | 0,1,_,_=>rfl
 | 0,2,_,_=>rfl
 | 1,0,_,_=>rfl
 | 1,1,_,_=>rfl
 | 1,2,_,_=>rfl
 | j,v+3,_,h=>absurd h (by omega)
 | j+2,0,h,_=>absurd h (by omega)
 | j+2,1,h,_=>absurd h (by omega)
 | j+2,2,h,_=>absurd h (by omega)
theorem all_3:∀ j v,j<2->v<3->sgA (sgN j v) 3=none
 | 0,0,_,_=>rfl
 | 0,1,_,_=>rfl
 | 0,2,_,_=>rfl
 | 1,0,_,_=>rfl
 | 1,1,_,_=>rfl
 | 1,2,_,_=>rfl
 | j,v+3,_,h=>absurd h (by omega)
 | j+2,0,h,_=>absurd h (by omega)
 | j+2,1,h,_=>absurd h (by omega)
 | j+2,2,h,_=>absurd h (by omega)
theorem all_go:∀ j v,j<2->v<3->jX st qC.x qC.z (koB qC.rs) ⟨y9,4,20000⟩ (4*j+v) ⟨zgZ 40 v,[]⟩ (nx4 (tN j v) (sgN j v))=0
 | 0,0,_,_=>go0_0
 | 0,1,_,_=>go0_1
 | 0,2,_,_=>go0_2
 | 1,0,_,_=>go1_0
 | 1,1,_,_=>go1_1
 | 1,2,_,_=>go1_2
 | j,v+3,_,h=>absurd h (by omega)
 | j+2,0,h,_=>absurd h (by omega)
 | j+2,1,h,_=>absurd h (by omega)
 | j+2,2,h,_=>absurd h (by omega)
theorem all_out:∀ j b,j<2->jX st qC.x qC.z (koB qC.rs) ⟨y9,4,20000⟩ (4*j+3) ⟨zaW 40 b,[]⟩ []=0
 | 0,true,_=>out0t
 | 0,false,_=>out0f
 | 1,true,_=>out1t
 | 1,false,_=>out1f
 | j+2,_,h=>absurd h (by omega)
theorem all_rw:∀ j v,j<2->v<4->zbH st j v=true
 | 0,0,_,_=>rw0_0
 | 0,1,_,_=>rw0_1
 | 0,2,_,_=>rw0_2
 | 0,3,_,_=>rw0_3
 | 1,0,_,_=>rw1_0
 | 1,1,_,_=>rw1_1
 | 1,2,_,_=>rw1_2
 | 1,3,_,_=>rw1_3
 | j,v+4,_,h=>absurd h (by omega)
 | j+2,0,h,_=>absurd h (by omega)
 | j+2,1,h,_=>absurd h (by omega)
 | j+2,2,h,_=>absurd h (by omega)
 | j+2,3,h,_=>absurd h (by omega)
theorem hall_go:∀ j,j<2->jX su qC.x qC.z (koB qC.rs) ⟨y9,4,20000⟩ (2*j) ⟨(.cmp .lss (.v 2) (.lit 0),false)::fGoO 40,[]⟩ [(2*uN j,sgA (suN j)),(2*uN j+1,sgA (suN j))]=0
 | 0,_=>ho0
 | 1,_=>ho1
 | j+2,h=>absurd h (by omega)
theorem zp7:∀ j b,j<2->jX su qC.x qC.z (koB qC.rs) ⟨y9,4,20000⟩ (2*j+1) ⟨zaW 40 b,[]⟩ []=0
 | 0,true,_=>hout0t
 | 0,false,_=>hout0f
 | 1,true,_=>hout1t
 | 1,false,_=>hout1f
 | j+2,_,h=>absurd h (by omega)
theorem hall_rw:∀ j,j<2->zeR (su (2*j)).h=true/\rowU (su (2*j+1)).h=true
 | 0,_=>hrw0
 | 1,_=>hrw1
 | j+2,h=>absurd h (by omega)
theorem hall_t:∀ j,j<2->uN j<2
 | 0,_=>by decide
 | 1,_=>by decide
 | j+2,h=>absurd h (by omega)
theorem hall_1:∀ j,j<2->sgA (suN j) 1=some (.v 1)
 | 0,_=>rfl
 | 1,_=>rfl
 | j+2,h=>absurd h (by omega)
theorem hall_2:∀ j,j<2->sgA (suN j) 2=some (.op .add .i64 (.v 2) (.lit 1))
 | 0,_=>rfl
 | 1,_=>rfl
 | j+2,h=>absurd h (by omega)
theorem hall_3:∀ j,j<2->sgA (suN j) 3=none
 | 0,_=>rfl
 | 1,_=>rfl
 | j+2,h=>absurd h (by omega)
open Go.RowKit
variable {E:Env}
theorem two_any (hlen:∀ E,jz E) (hl:E.i 1=(E.s 0).len) (hl2:E.i 8=(E.s 1).len) (hD:∃ D,zhb (E.s 0) D) (hD2:∃ D,RowB (E.s 1) D) {ρ:Rho} {w:World} (hs:Sat E ρ hR2 w) (jo:∀ p o,hR2.t.get p=some o->o.live=true->hR2.lo.toNat<=p.toNat->w.heap.size<=(ρ p).b) :
  Calls Tryz.prog 4 (γL E ρ [.fs .h 0,.fs (.o .h) 1]).toArray w fun e w'=>e=.returned (.bool true)/\Below w.heap.size w w':=
 zkx zr yB Tryz.func4 qcut w4 (n:=2) (B:=40) (by decide) (fun E=>zbU (hlen E)) all_t all_1 all_8 all_2 all_3 all_rw all_go all_out hl hl2 hD hD2 (j0:=0) (by decide) (sg0:=sg0) rfl rfl rfl rfl
  (g0:=⟨zd8,4,20000⟩) (zfp (zfm (hlen E)) (zbU (hlen E))) FaOk.nil r_in hs ⟨(by show (1:Nat)<3;decide),(by show (2:Nat)<3;decide),trivial⟩ jo
theorem one_any (hlen:∀ E,jz E) (hl:E.i 1=(E.s 0).len) (hD:∃ D,zhb (E.s 0) D) {ρ:Rho} {w:World} (hs:Sat E ρ hR w) (jo:∀ p o,hR.t.get p=some o->o.live=true->hR.lo.toNat<=p.toNat->w.heap.size<=(ρ p).b) :
  Calls Tryz.prog 4 (γL E ρ [.fs .h 0,.snil]).toArray w fun e w'=>e=.returned (.bool true)/\Below w.heap.size w w':=
 zky zr yB Tryz.func4 qcut w4 (n:=2) (B:=40) (by decide) (fun E=>zbU (hlen E)) hall_t hall_1 hall_2 hall_3 hall_rw hall_go zp7 hl hD (j0:=0) (by decide) (sg0:=su0) rfl rfl rfl
  (g0:=⟨zd8,4,20000⟩) (zfp (zfm (hlen E)) (zbU (hlen E))) FaOk.nil r_ln hs ⟨(by show (1:Nat)<2;decide),trivial,trivial⟩ jo
end Go.Ev.X
end
