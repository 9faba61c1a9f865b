/-
 Laws with two loops: where a round leads is told by whatever says so; a list of one's own that comes to lie elsewhere.
-/
import Derived.Test.YtgaelfnoffejgaaEvG3
set_option linter.unusedSimpArgs false
set_option linter.unusedVariables false
noncomputable section
namespace Go.Ev
open Go Go.RowKit
variable {E E' : Env} {P : Program} {N : Nat}
def LeadsK (st : Nat → GS) (Inv : Nat → Nat → Env → Prop) (E : Env) (nk : Fr → H → Nat) (m : Nat) : Prop :=
 ∀ fr h, nk fr h = 0 → ∀ w0 lo ρ w tmps, Wd w0 lo ρ h w → Sat E ρ h w → FrOk E ρ h.n.toNat fr tmps → ∃ j' m' E' ρ', m' < m ∧ Inv m' j' E' ∧ Wd w0 lo ρ' (st j').h w ∧ Sat E' ρ' (st j').h w ∧ FrL E' ρ' (st j').h.n.toNat (st j').fr tmps
theorem leadsK_none {st : Nat → GS} {Inv : Nat → Nat → Env → Prop} {m : Nat} : LeadsK st Inv E (fun _ _ => 1) m := fun _ _ h => absurd h (by simp)
theorem leadsK_of {st : Nat → GS} {Inv : Nat → Nat → Env → Prop} {nx : List (Nat × Sg)} {m : Nat} (hl : Leads st Inv E nx m) : LeadsK st Inv E (nextK st nx) m := fun fr h hk w0 lo ρ w tmps d s f => by
 obtain ⟨hne, hall⟩ := nextK_ok hk
 obtain ⟨j', σ, m', E', hmem, hlt, hI', ht, hrow⟩ := hl hne
 obtain ⟨d2, s2, f2⟩ := match_ok (hall _ hmem) ht hrow d s f
 exact ⟨j', m', E', ρ, hlt, hI', d2, s2, f2⟩
def runK (st : Nat → GS) (x : IC) (zo : K2) (nk : Fr → H → Nat) (g : Ctx) (j : Nat) (fa : Fa) : Nat :=
 frOf (st j).fr (fun fr => codeT x g fr (st j).h fa (fun e fr h fa => aeGo e (nk fr h) (zo .ret fr h fa) (fun i => zo (.exit i) fr h fa)))
theorem graph_rounds4 {Y : Ty} (hY : TyOk P Y) (hm : P.follows .mixedOrders = true) {dr : Nat → Option Dr} {w0 : World} {lo : Ev.P} {x : Code} {QZ : Exit → Act → World → Prop} {st : Nat → GS} {Inv : Nat → Nat → Env → Prop}
  (hB : drawB dr x = true)
  (round : ∀ m j E, Inv m j E → ∃ fa nk zo g, CallOk E P g.call ∧ FaOk E fa ∧ runK st (cCode Y N dr x) zo nk g j fa = 0 ∧ LeadsK st Inv E nk m ∧ GoodE E P N w0 lo zo QZ) :
  ∀ m j E, Inv m j E → ∀ ρ w (a : Act), Wd w0 lo ρ (st j).h w → Sat E ρ (st j).h w → FrL E ρ (st j).h.n.toNat (st j).fr a.tmps → N ≤ a.tmps.size → a.defers = [] → Code.rounds P x QZ (m + 1) a w := by
 intro m
 induction m using Nat.strongRecOn with
 | _ m ih =>
  intro j E hI ρ w a d hs hf hN hd
  obtain ⟨fa, nk, zo, g, hcall, hfa, hr, hl, hgood⟩ := round m j E hI
  obtain ⟨fr, hr, hfr⟩ := frOf_ok hr
  have hf' : FrOk E ρ (st j).h.n.toNat fr a.tmps := fun t v hv => hf t v (hfr _ v hv)
  obtain ⟨ae, fr1, h1, fa1, hk1, hfa1, r1⟩ := codeT_run hY hm hcall x fr (st j).h fa _ hB hfa hr
  rw [rounds_succ]
  refine r1 ρ w a _ hs hf' hN hd ?_
  rintro a' w' ⟨ρ', f1, n1, d1, s1, x1⟩
  cases ae with
  | normal =>
   obtain ⟨j', m', E', ρ2, hlt, hI', d2, s2, f2⟩ := hl fr1 h1 (show nk fr1 h1 = 0 from hk1) w0 lo ρ' w' a'.tmps (d.step x1) s1 f1
   exact rounds_mono a' w' (by omega) (ih m' hlt j' E' hI' ρ2 w' a' d2 s2 f2 n1 d1)
  | ret => exact hgood .ret fr1 h1 fa1 hk1 hfa1 ρ' w' a' (d.step x1) s1 f1 n1 d1
  | exit i => exact hgood (.exit i) fr1 h1 fa1 hk1 hfa1 ρ' w' a' (d.step x1) s1 f1 n1 d1
def kLoopK (z : ZI) (g : Ctx) (nk : Fr → H → Nat) (ko : K2) : K2 := fun e fr h fa =>
 aeGo e (zIn z g fr h fa (fun fr h _ => nk fr h) ko) (ko .ret fr h fa) (fun i => ko (.exit i) fr h fa)
theorem kLoopK_good {Y : Ty} (hY : TyOk P Y) (hm : P.follows .mixedOrders = true) {dr : Nat → Option Dr} {g : Ctx} (hcall : CallOk E P g.call) {w0 : World} {lo : Ev.P} {z : ZC} {x : Code} (hBz : z.drB dr = true) {ko : K2} {QQ : Exit → Act → World → Prop}
  {st : Nat → GS} {Inv : Nat → Nat → Env → Prop} (hL : LoopOk P N w0 lo x (zPost P z QQ) st Inv) {nk : Fr → H → Nat} (m : Nat) (hl : LeadsK st Inv E nk m) (hko : GoodE E P N w0 lo ko QQ) :
  GoodE E P N w0 lo (kLoopK (zGo Y N dr z) g nk ko) (Exit.then ((z.plug (.loop x)).wp P QQ) QQ) := by
 intro ae fr h fa hk hfa ρ w a d hs hf hN hd
 cases ae with
 | normal =>
  refine zIn_run hY hm hcall z fr h fa ko QQ hBz hk hfa hko ?_ ρ w a d hs hf hN hd
  intro fr' h' fa' hk' hfa' ρ' w' a' d' s' f' n' dd'
  obtain ⟨j', m', E', ρ2, hlt, hI', d2, s2, f2⟩ := hl fr' h' hk' w0 lo ρ' w' a'.tmps d' s' f'
  exact wp_loop_rounds (m' + 1) (hL m' j' E' hI' ρ2 w' a' d2 s2 f2 n' dd')
 | ret => exact hko .ret fr h fa hk hfa ρ w a d hs hf hN hd
 | exit i => exact hko (.exit i) fr h fa hk hfa ρ w a d hs hf hN hd
def Cut2.endK (q : Cut2) (g : Ctx) (nk : Fr → H → Nat) : K2 := zOut q.z1 g (kLoopK q.z2 g nk (zOut q.z0 g (koB q.rs)))
theorem cut4_law {Y : Ty} (hY : TyOk P Y) (hm : P.follows .mixedOrders = true) {dr : Nat → Option Dr} {F : Nat} {f : Func} {q : Cut2} (hfn : P.funcs[F]? = some f) (hc : cut2X Y dr f = some q) (hw : drawF dr f = true)
  {st st2 : Nat → GS} {Inv Inv2 : Nat → Nat → Env → Prop}
  (round2 : ∀ m j E, Inv2 m j E → ∃ fa nk g, CallOk E P g.call ∧ FaOk E fa ∧ runK st2 q.x2 (q.end2 g) nk g j fa = 0 ∧ LeadsK st2 Inv2 E nk m)
  (round : ∀ m j E, Inv m j E → ∃ fa nk nk2 m2 g, CallOk E P g.call ∧ FaOk E fa ∧ runK st q.x1 (q.endK g nk2) nk g j fa = 0 ∧ LeadsK st Inv E nk m ∧ LeadsK st2 Inv2 E nk2 m2)
  {E : Env} {g0 : Ctx} (h0 : CallOk E P g0.call) {l : List V} {h00 : H} {fa : Fa} (hfa : FaOk E fa) {nk : Fr → H → Nat} (m : Nat) (hl : LeadsK st Inv E nk m)
  (hin : initFr l (fun fr => zIn q.z0 g0 fr h00 fa (fun fr h fa => zIn q.z1 g0 fr h fa (fun fr h _ => nk fr h) (kLoopK q.z2 g0 (fun _ _ => 1) (zOut q.z0 g0 (koB q.rs)))) (koB q.rs)) = 0)
  {ρ : Rho} {w : World} (hs : Sat E ρ h00 w) (hbd : bdL h00.n.toNat l) (hnew : ∀ p o, h00.t.get p = some o → o.live = true → h00.lo.toNat ≤ p.toNat → w.heap.size ≤ (ρ p).b) :
  Calls P F (γL E ρ l).toArray w fun e w' => e = .returned (.bool true) ∧ Below w.heap.size w w' := by
 unfold cut2X at hc
 split at hc
 rotate_left
 ·simp at hc
 rename_i c rs hb hrs
 split at hc
 rotate_left
 ·simp at hc
 rename_i z hz
 simp at hc; subst hc
 have hcz := zip2_ok hz
 subst hcz
 unfold drawF at hw
 rw [hb] at hw
 obtain ⟨z0, z1, x1, z2, x2⟩ := z
 obtain ⟨hB0, hB12⟩ := plug_drB' (show drawB dr (z0.plug (.seq (z1.plug (.loop x1)) (z2.plug (.loop x2)))) = true from hw)
 simp only [drawB, Bool.and_eq_true] at hB12
 obtain ⟨hB1, hBx1⟩ := plug_drB hB12.1
 obtain ⟨hB2, hBx2⟩ := plug_drB hB12.2
 obtain ⟨fr, hk, hfr⟩ := initFr_ok hin
 refine calls_of_wp hfn hb ?_
 have hf : FrOk E ρ h00.n.toNat fr ((γL E ρ l).toArray ++ Array.replicate (f.ntmps - (γL E ρ l).toArray.size) undef) := by
  intro t v hv
  have h2 := hfr t v hv
  have ht : t < l.length := (List.getElem?_eq_some_iff.1 h2).1
  refine ⟨?_, (bdL_eq _ l).1 hbd v (List.mem_of_getElem? h2)⟩
  rw [Array.getElem?_append_left (by simp [γL_length]; exact ht)]
  simp [γL_get, h2]
 let QQ : Exit → Act → World → Prop := bodyPost P f (fun e w' => e = .returned (.bool true) ∧ Below w.heap.size w w')
 let Q0 : Exit → Act → World → Prop := zPost P z0 QQ
 let Q1 : Exit → Act → World → Prop := Exit.then ((z2.plug (.loop x2)).wp P Q0) Q0
 have kB : ∀ E, GoodE E P f.ntmps w h00.lo (koB rs) QQ := fun E => koB_good hY hrs w _ E
 have k0 : ∀ E (g : Ctx), CallOk E P g.call → GoodE E P f.ntmps w h00.lo (zOut (zGo Y f.ntmps dr z0) g (koB rs)) Q0 := fun E g hg => zOut_good hY hm hg z0 _ _ hB0 (kB E)
 have L2 : LoopOk P f.ntmps w h00.lo x2 (zPost P z2 Q0) st2 Inv2 := graph_rounds4 hY hm hBx2 fun m j E hI => by
  obtain ⟨fa, nk, g, hg, h1, h2, h3⟩ := round2 m j E hI
  exact ⟨fa, nk, _, g, hg, h1, h2, h3, zOut_good hY hm hg z2 _ _ hB2 (k0 E g hg)⟩
 have L1 : LoopOk P f.ntmps w h00.lo x1 (zPost P z1 Q1) st Inv := graph_rounds4 hY hm hBx1 fun m j E hI => by
  obtain ⟨fa, nk, nk2, m2, g, hg, h1, h2, h3, h4⟩ := round m j E hI
  exact ⟨fa, nk, _, g, hg, h1, h2, h3, zOut_good hY hm hg z1 _ _ hB1 (kLoopK_good hY hm hg hB2 L2 m2 h4 (k0 E g hg))⟩
 refine zIn_run hY hm h0 (w0 := w) (lo := h00.lo) z0 fr h00 fa (koB rs) QQ hB0 hk hfa (kB E) ?_ ρ w _ ⟨rfl, rfl, rfl, rfl, Nat.le_refl _, fun _ _ => rfl, hnew⟩ hs hf (by simp [γL_length]; omega) rfl
 intro fr' h' fa' hk' hfa' ρ' w' a' d' s' f' n' dd'
 refine wp_seq ?_
 refine zIn_run hY hm h0 z1 fr' h' fa' _ Q1 hB1 hk' hfa' (kLoopK_good hY hm h0 hB2 L2 0 leadsK_none (k0 E g0 h0)) ?_ ρ' w' a' d' s' f' n' dd'
 intro fr2 h2 fa2 hk2 hfa2 ρ2 w2 a2 d2 s2 f2 n2 dd2
 obtain ⟨j', m', E', ρ3, hlt, hI', d3, s3, f3⟩ := hl fr2 h2 hk2 w h00.lo ρ2 w2 a2.tmps d2 s2 f2
 exact wp_loop_rounds (m' + 1) (L1 m' j' E' hI' ρ3 w2 a2 d3 s3 f3 n2 dd2)
structure MvS where
 kk : Ky
 fr : List (Ky × V)
 q0 : Ev.P
 q1 : Ev.P
 lo : Ev.P
 bs : PT O
 t : TypeId
 l : List V
def MvS.o (s : MvS) : O := .vec s.t 1 (len s.l) s.l
def MvS.st (s : MvS) : GS := ⟨(s.kk, .vec s.q0 (len s.l)) :: s.fr, ⟨s.q1, s.lo, s.bs.set s.q0 s.o⟩⟩
def MvS.ok (s : MvS) : Bool := pLt s.q0 s.q1 && pLe s.lo s.q0 && bdLB s.q0 s.l && allB (fun p : Ky × V => p.2.bdB s.q0) s.fr && ptAll (fun p o => pLt p s.q0 && oBdB s.q0 o) (fun p => p) s.bs
def nextM (s : MvS) (σ : Sg) (fr : Fr) (h : H) : Nat := match fr.get s.kk with
 | some (.vec p n) => hc h fun n' _ _ => bc (pLe s.q0 p) (bc (matchB ⟨(s.kk, .vec p (len s.l)) :: s.fr, ⟨n', s.lo, s.bs.set p s.o⟩⟩ σ fr h) 0 1) 1
 | _ => 1
theorem nextM_ok {s : MvS} (hok : s.ok = true) {σ : Sg} {fr : Fr} {h : H} (hk : nextM s σ fr h = 0) (t : TrE σ E E') (hrow : ∀ p o, s.st.h.t.get p = some o → RowEl E' o) {w0 : World} {lo : Ev.P} {ρ : Rho} {w : World} {tmps : Array Value} (d : Wd w0 lo ρ h w) (hs : Sat E ρ h w) (hf : FrOk E ρ h.n.toNat fr tmps) :
  ∃ ρ', Wd w0 lo ρ' s.st.h w ∧ Sat E' ρ' s.st.h w ∧ FrL E' ρ' s.st.h.n.toNat s.st.fr tmps := by
 unfold MvS.ok at hok
 simp only [Bool.and_eq_true] at hok
 obtain ⟨⟨⟨⟨k1, k2⟩, k3⟩, k4⟩, k5⟩ := hok
 have k1 : s.q0.toNat < s.q1.toNat := by simpa [pLt] using k1
 have k2 : s.lo.toNat ≤ s.q0.toNat := by simpa [pLe] using k2
 have base : ∀ x o, s.bs.get x = some o → x.toNat < s.q0.toNat ∧ o.bd s.q0.toNat := fun x o hx => by
  have := ptAll_ok _ _ x o k5 hx
  simp only [Bool.and_eq_true] at this
  exact ⟨by simpa [pLt] using this.1, oBd_ok this.2⟩
 unfold nextM at hk
 split at hk
 rotate_left
 ·cases hk
 rename_i p n hp
 rw [hc_eq] at hk
 obtain ⟨h1, hk⟩ := bc_ok hk (by simp)
 obtain ⟨h2, _⟩ := bc_ok hk (by simp)
 have h1 : s.q0.toNat ≤ p.toNat := by simpa [pLe] using h1
 have og : ∀ (y : Ev.P) x o, (s.bs.set y s.o).get x = some o → (x = y ∧ o = s.o) ∨ (x ≠ y ∧ s.bs.get x = some o) := fun y x o hx => by
  by_cases e : x = y
  ·subst e
   rw [PT.get_set_same] at hx
   exact .inl ⟨rfl, (Option.some.inj hx).symm⟩
  ·rw [PT.get_set_other _ _ _ _ (fun h => e h.symm)] at hx
   exact .inr ⟨e, hx⟩
 have inb : ∀ x o, s.bs.get x = some o → x ≠ p ∧ x ≠ s.q0 := fun x o hx => by
  have := (base x o hx).1
  exact ⟨fun e => by subst e; omega, fun e => by subst e; omega⟩
 obtain ⟨d1, s1, f1⟩ := match_ok h2 t (E' := E') (fun x o hx => by
  rcases og p x o hx with ⟨rfl, rfl⟩ | ⟨_, hx⟩
  ·exact hrow s.q0 _ (PT.get_set_same _ _ _)
  ·exact hrow x o (by show (s.bs.set s.q0 s.o).get x = _; rw [PT.get_set_other _ _ _ _ (fun h => (inb x o hx).2 h.symm)]; exact hx)) d hs hf
 have atp : (s.bs.set p s.o).get p = some s.o := PT.get_set_same _ _ _
 have atx : ∀ x o, s.bs.get x = some o → (s.bs.set p s.o).get x = some o := fun x o hx => by rw [PT.get_set_other _ _ _ _ (fun h => (inb x o hx).1 h.symm)]; exact hx
 obtain ⟨ρ', hρ⟩ : ∃ ρ' : Rho, ρ' = fun x => @ite _ (x = s.q0) (Classical.propDecidable _) (ρ p) (ρ x) := ⟨_, rfl⟩
 have r0 : ρ' s.q0 = ρ p := by rw [hρ]; simp
 have rx : ∀ x, x ≠ s.q0 → ρ' x = ρ x := fun x hx => by rw [hρ]; simp [hx]
 have agree : ∀ i : Ev.P, i.toNat < s.q0.toNat → ρ' i = ρ i := fun i hi => rx i (fun e => by subst e; omega)
 have obd : s.o.bd s.q0.toNat := bdLB_ok (n := s.q0) _ k3
 have hlo : s.lo = lo := d1.lo
 refine ⟨ρ', ⟨hlo, d1.os, d1.tape, d1.output, d1.size, d1.keep, fun x o hx hl hl2 => ?_⟩, ⟨fun x o hx => ?_, fun x y o o' hx hy l1 l2 he => ?_, fun x o hx => ?_⟩, fun t' v hv => ?_⟩
 ·rcases og s.q0 x o hx with ⟨rfl, rfl⟩ | ⟨hne, hx⟩
  ·rw [r0]
   exact d1.new p _ atp hl (by omega)
  ·rw [rx x hne]
   exact d1.new x o (atx x o hx) hl hl2
 ·rcases og s.q0 x o hx with ⟨rfl, rfl⟩ | ⟨hne, hx⟩
  ·rw [r0]
   exact O.Is_agree E' agree obd (s1.obj p _ atp)
  ·rw [rx x hne]
   exact O.Is_agree E' agree (base x o hx).2 (s1.obj x o (atx x o hx))
 ·rcases og s.q0 x o hx with ⟨rfl, rfl⟩ | ⟨hne, hx⟩
  ·rcases og s.q0 y o' hy with ⟨rfl, rfl⟩ | ⟨hne', hy⟩
   ·rfl
   ·rw [r0, rx y hne'] at he
    exact absurd (s1.inj p y _ o' atp (atx y o' hy) l1 l2 he).symm (inb y o' hy).1
  ·rcases og s.q0 y o' hy with ⟨rfl, rfl⟩ | ⟨hne', hy⟩
   ·rw [r0, rx x hne] at he
    exact absurd (s1.inj x p o _ (atx x o hx) atp l1 l2 he) (inb x o hx).1
   ·rw [rx x hne, rx y hne'] at he
    exact s1.inj x y o o' (atx x o hx) (atx y o' hy) l1 l2 he
 ·show x.toNat < s.q1.toNat ∧ o.bd s.q1.toNat
  rcases og s.q0 x o hx with ⟨rfl, rfl⟩ | ⟨hne, hx⟩
  ·exact ⟨k1, O.bd_mono (by omega) _ obd⟩
  ·obtain ⟨b1, b2⟩ := base x o hx
   exact ⟨by omega, O.bd_mono (by omega) _ b2⟩
 ·have hv : (keyOf t', v) ∈ (s.kk, V.vec s.q0 (len s.l)) :: s.fr := hv
  show tmps[t']? = some (v.γ E' ρ') ∧ v.bd s.q1.toNat
  rcases List.mem_cons.1 hv with e | hv
  ·injection e with e1 e2
   subst e2
   obtain ⟨g1, _⟩ := f1 t' (.vec p (len s.l)) (by rw [e1]; exact List.mem_cons_self ..)
   refine ⟨?_, k1⟩
   rw [g1]
   simp only [V.γ, r0]
  ·obtain ⟨g1, _⟩ := f1 t' v (List.mem_cons_of_mem _ hv)
   have hb : v.bd s.q0.toNat := bdB_ok (n := s.q0) _ (allB_ok k4 _ hv)
   exact ⟨by rw [g1, γ_agree E' agree v hb], bd_mono (by omega) _ hb⟩
theorem leadsK_M {st : Nat → GS} {Inv : Nat → Nat → Env → Prop} {s : MvS} (hok : s.ok = true) {σ : Sg} {m j' m' : Nat} {E' : Env} (hst : st j' = s.st) (hlt : m' < m) (hI : Inv m' j' E') (t : TrE σ E E') (hrow : ∀ p o, s.st.h.t.get p = some o → RowEl E' o) : LeadsK st Inv E (nextM s σ) m := fun fr h hk w0 lo ρ w tmps d hs hf => by
 obtain ⟨ρ', d1, s1, f1⟩ := nextM_ok hok hk t hrow d hs hf
 exact ⟨j', m', E', ρ', hlt, hI, by rw [hst]; exact d1, by rw [hst]; exact s1, by rw [hst]; exact f1⟩
end Go.Ev
end
