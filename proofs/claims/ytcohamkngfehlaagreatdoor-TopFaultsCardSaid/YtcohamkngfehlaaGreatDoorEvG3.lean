import Derived.Test.YtcohamkngfehlaaGreatDoorE5
set_option linter.unusedSimpArgs false
set_option linter.unusedVariables false
noncomputable section
namespace Go.Ev
open Go Go.RowKit
variable {E E':Env} {P:Program} {N:Nat}
theorem zq8 {Y:Ty} (hY:TyOk P Y) (hm:P.follows .mixedOrders=true) {dr:Nat->Option Dr} {F:Nat} {f:Func} {q:CutX} (hfn:P.funcs[F]? = some f) (hc:cutX Y dr f=some q) (hw:zbD dr f=true)
  {st:Nat->GS} {Inv:Nat->Nat->Env->Prop}
  (round:∀ m j E,Inv m j E->∃ g fa nx,zc E P g.call/\FaOk E fa/\zbL st q.x q.z (koB q.rs) g j fa nx=0/\zgt st Inv E nx m)
  {E:Env} {g0:Ctx} (h0:zc E P g0.call) {l:List V} {h00:H} {fa:Fa} (hfa:FaOk E fa) {nx:List (Nat × Sg)} (m:Nat) (hl:zgt st Inv E nx m)
  (hin:za2 l (fun fr=>zIn q.z g0 fr h00 fa (fun fr h _=>ze8 st nx fr h) (koB q.rs))=0)
  {ρ:Rho} {w:World} (hs:Sat E ρ h00 w) (hbd:bdL h00.n.toNat l) (jV:∀ p o,h00.t.get p=some o->o.live=true->h00.lo.toNat<=p.toNat->w.heap.size<=(ρ p).b) :
  Calls P F (γL E ρ l).toArray w fun e w'=>e=.returned (.bool true)/\Below w.heap.size w w':=by
 unfold cutX at hc
 split at hc
 rotate_left
 ·simp at hc
 rename_i c rs hb hrs
 split at hc
 rotate_left
 ·simp at hc
 rename_i z x hz
 simp at hc;subst hc
 have hcz:=zek hz
 subst hcz
 unfold zbD at hw
 rw[hb]at hw
 obtain⟨hB1,hB2⟩:=zc0 hw
 obtain⟨fr,hk,hfr⟩:=jz hin
 refine calls_of_wp hfn hb ?_
 have hf:zp E ρ h00.n.toNat fr ((γL E ρ l).toArray ++ Array.replicate (f.ntmps - (γL E ρ l).toArray.size) undef):=by
  intro t v hv
  have h2:=hfr t v hv
  have ht:t<l.length:=(List.getElem?_eq_some_iff.1 h2).1
  refine⟨?_,(yb _ l).1 hbd v (List.mem_of_getElem? h2)⟩
  rw[Array.getElem?_append_left (by simp[γL_length];exact ht)]
  simp[γL_get,h2]
 have kB:=fun E=>zqp (N:=f.ntmps) hY hrs w h00.lo E
 have L:=zfN (N:=f.ntmps) (w0:=w) (lo:=h00.lo) (QZ:=zfQ P z (bodyPost P f (fun e w'=>e=.returned (.bool true)/\Below w.heap.size w w'))) (st:=st) (Inv:=Inv) hY hm hB2 fun m j E hI=>by
  obtain⟨g,fa,nx,hg,h1,h2,h3⟩:=round m j E hI
  exact⟨fa,nx,zOut (zGo Y f.ntmps dr z) g (koB rs),g,hg,h1,h2,h3,zbZ hY hm hg z _ _ hB1 (kB E)⟩
 refine zel hY hm h0 (w0:=w) (lo:=h00.lo) z fr h00 fa (koB rs) _ hB1 hk hfa (kB E) ?_ ρ w _ ⟨rfl,rfl,rfl,rfl,Nat.le_refl _,fun _ _=>rfl,jV⟩ hs hf (by simp[γL_length];omega) rfl
 intro fr' h' fa' hk' hfa' ρ' w' a' d' s' f' n' dd'
 obtain⟨hne,hall⟩:=zjM hk'
 obtain⟨j',σ,m',E',hmem,hlt,hI',ht,hrow⟩:=hl hne
 obtain⟨d2,s2,f2⟩:=zjT (hall _ hmem) ht hrow d' s' f'
 exact wp_loop_rounds (m'+1) (L m' j' E' hI' ρ' w' a' d2 s2 f2 n' dd')
end Go.Ev
end
