import Derived.Test.YtcohamkngfehlaaGreatDoorTSa
set_option linter.unusedSimpArgs false
set_option linter.unusedVariables false
set_option maxRecDepth 100000
noncomputable section
namespace Go.Ev.X
open Go Go.Ev Go.Proofs
theorem all_go:∀ j,j<2->zcN st qC.x qC.z (koB qC.rs) ⟨zaW,5,20000⟩ (2*j) ⟨fGoO 40,[]⟩ [(2*tN j,sgA (sgN j)),(2*tN j+1,sgA (sgN j))]=0
 | 0,_=>go0
 | 1,_=>go1
 | j+2,h=>absurd h (by omega)
theorem all_out:∀ j b,j<2->zcN st qC.x qC.z (koB qC.rs) ⟨zaW,5,20000⟩ (2*j+1) ⟨zfg 40 b,[]⟩ []=0
 | 0,true,_=>out0t
 | 0,false,_=>out0f
 | 1,true,_=>out1t
 | 1,false,_=>out1f
 | j+2,_,h=>absurd h (by omega)
theorem all_rw:∀ j,j<2->zeL (st (2*j)).h=true/\rowU (st (2*j+1)).h=true
 | 0,_=>rw0
 | 1,_=>rw1
 | j+2,h=>absurd h (by omega)
theorem all_t:∀ j,j<2->tN j<2
 | 0,_=>by decide
 | 1,_=>by decide
 | j+2,h=>absurd h (by omega)
theorem all_1:∀ j,j<2->sgA (sgN j) 1=some (.v 1)
 | 0,_=>rfl
 | 1,_=>rfl
 | j+2,h=>absurd h (by omega)
theorem all_2:∀ j,j<2->sgA (sgN j) 2=some (.op .add .i64 (.v 2) (.lit 1))
 | 0,_=>rfl
 | 1,_=>rfl
 | j+2,h=>absurd h (by omega)
theorem all_3:∀ j,j<2->sgA (sgN j) 3=none
 | 0,_=>rfl
 | 1,_=>rfl
 | j+2,h=>absurd h (by omega)
open Go.RowKit
variable {E:Env}
theorem zmu (hlen:∀ E,ju E) (hl:E.i 1=(E.s 0).len) (hD:∃ D,RowW (E.s 0) D) {ρ:Rho} {w:World} (hs:Sat E ρ hR w) (jG:∀ p o,hR.t.get p=some o->o.live=true->hR.lo.toNat<=p.toNat->w.heap.size<=(ρ p).b) :
  Calls Tryz.prog 5 (γL E ρ [.fs .h 0]).toArray w fun e w'=>e=.returned (.bool true)/\Below w.heap.size w w':=
 zmt zr yB Tryz.func5 qcut w5 (n:=2) (B:=40) (by decide) (fun E=>zfk (hlen E)) all_t all_1 all_2 all_3 all_rw all_go all_out hl hD (j0:=0) (by decide) (sg0:=sg0) rfl rfl rfl
  (g0:=⟨zmk,5,20000⟩) (zkb (zgV (hlen E)) (zfk (hlen E))) FaOk.nil r_in hs ⟨(by show (1:Nat)<2;decide),trivial⟩ jG
end Go.Ev.X
end
