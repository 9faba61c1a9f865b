import Derived.Test.YtcohamkngfehlaaGreatDoorTSa
set_option linter.unusedSimpArgs false
set_option linter.unusedVariables false
set_option maxRecDepth 100000
noncomputable section
namespace Go.Ev.X
open Go Go.Ev Go.Proofs
theorem all_t:∀ j b,j<2->tN j b<2
 | 0,true,_=>by decide
 | 0,false,_=>by decide
 | 1,true,_=>by decide
 | 1,false,_=>by decide
 | j+2,_,h=>absurd h (by omega)
theorem all_g:∀ j b,j<2->sgA (sgN j b) 1=some (.v 1)/\sgA (sgN j b) 8=some (.v 8)/\sgA (sgN j b) 2=some (.op .add .i64 (.v 2) (.lit 1))/\sgA (sgN j b) 3=none/\sgA (sgN j b) 4=none/\sgA (sgN j b) 6=none/\sgA (sgN j b) 7=none
 | 0,true,_=>⟨rfl,rfl,rfl,rfl,rfl,rfl,rfl⟩
 | 0,false,_=>⟨rfl,rfl,rfl,rfl,rfl,rfl,rfl⟩
 | 1,true,_=>⟨rfl,rfl,rfl,rfl,rfl,rfl,rfl⟩
 | 1,false,_=>⟨rfl,rfl,rfl,rfl,rfl,rfl,rfl⟩
 | j+2,_,h=>absurd h (by omega)
theorem all_go:∀ j b,j<2->zbL st qC.x qC.z (koB qC.rs) ⟨cpF,6,20000⟩ (2*j) ⟨fGoQ 40 b ++ fxB b,[]⟩ (nx2 (tN j b) (sgN j b))=0
 | 0,true,_=>go0t
 | 0,false,_=>go0f
 | 1,true,_=>go1t
 | 1,false,_=>go1f
 | j+2,_,h=>absurd h (by omega)
theorem all_out:∀ j e,j<2->e<3->zbL st qC.x qC.z (koB qC.rs) ⟨zab,6,20000⟩ (2*j+1) ⟨zde 40 e,[]⟩ []=0
 | 0,0,_,_=>out0_0
 | 0,1,_,_=>out0_1
 | 0,2,_,_=>out0_2
 | 1,0,_,_=>out1_0
 | 1,1,_,_=>out1_1
 | 1,2,_,_=>out1_2
 | j,e+3,_,h=>absurd h (by omega)
 | j+2,0,h,_=>absurd h (by omega)
 | j+2,1,h,_=>absurd h (by omega)
 | j+2,2,h,_=>absurd h (by omega)
theorem all_rw:∀ j v,j<2->v<2->zeX st j v=true
 | 0,0,_,_=>rw0_0
 | 0,1,_,_=>rw0_1
 | 1,0,_,_=>rw1_0
 | 1,1,_,_=>rw1_1
 | j,v+2,_,h=>absurd h (by omega)
 | j+2,0,h,_=>absurd h (by omega)
 | j+2,1,h,_=>absurd h (by omega)
open Go.RowKit
variable {E:Env}
theorem cpF_ok (hlen:∀ E,jr E) (h3:I64 (E.i 3)) (h4:I64 (E.i 4)) (h6:E.i 6=jT (E.i 4) 65536) (h7:E.i 7=jT (E.i 3) 2):zc E Tryz.prog cpF:=
 zf0 (v:=.si .i64 (.v 7)) Tryz.call10 (fun E' _=>zdP (hlen E')) (fun E' _=>zba (hlen E')) pk2_0 pk2_1 h3 trivial (fun ρ=>by simp only[V.γ,SE.den,h7])
  (zf0 (v:=.si .i64 (.v 6)) Tryz.call10 (fun E' _=>zdP (hlen E')) (fun E' _=>zba (hlen E')) znt zns h4 trivial (fun ρ=>by simp only[V.γ,SE.den,h6]) (zba (hlen E)))
theorem two_any (hlen:∀ E,jr E) (hl:E.i 1=(E.s 0).len) (hl2:E.i 8=(E.s 1).len) (hD:∃ D,zhk (E.s 0) D) (hD2:∃ D,zhk (E.s 1) D) {ρ:Rho} {w:World} (hs:Sat E ρ hR2 w) (jV:∀ p o,hR2.t.get p=some o->o.live=true->hR2.lo.toNat<=p.toNat->w.heap.size<=(ρ p).b) :
  Calls Tryz.prog 6 (γL E ρ [.fs .h 0,.fs (.o .h) 1]).toArray w fun e w'=>e=.returned (.bool true)/\Below w.heap.size w w':=
 zlc zt yC Tryz.func6 qcut w6 (K0:=2) (K1:=65536) (n:=2) (B:=40) (by decide) (fun E=>zba (hlen E)) (fun E=>cpF_ok hlen) (fun E b h3 h4 h6 h7=>fxB_ok h3 h4 h6 h7 b) all_t all_g all_rw all_go all_out hl hl2 hD hD2 (j0:=0) (by decide) (sg0:=sg0) rfl rfl rfl rfl rfl rfl rfl
  (g0:=⟨zec,6,20000⟩) (zkq (zdP (hlen E)) (zba (hlen E))) FaOk.nil r_in hs ⟨(by show (1:Nat)<3;decide),(by show (2:Nat)<3;decide),trivial⟩ jV
end Go.Ev.X
end
