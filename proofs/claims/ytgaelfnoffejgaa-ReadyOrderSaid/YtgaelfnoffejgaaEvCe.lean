/-
 Functions with one loop, whatever they hand back: what stands at the end, told in symbols; such a function as a known call.
-/
import Derived.Test.YtgaelfnoffejgaaE5
import Derived.Test.YtgaelfnoffejgaaE6
set_option linter.unusedSimpArgs false
set_option linter.unusedVariables false
noncomputable section
namespace Go.Ev
open Go Go.RowKit
variable {E E' : Env} {P : Program} {N : Nat}
def koM (rs : List IR) (vr : V) (hF : H) (σ : Sg) : K2 := fun e fr h _ => aeGo e 1 (resT rs fr h (fun v => bc (V.beq v vr) (bc (matchB ⟨[], hF⟩ σ fr h) 0 1) 1) 1) (fun _ => 1)
theorem koM_good {Y : Ty} (hY : TyOk P Y) {f : Func} {rs : List IR} (hrs : cRes Y f.results.toList = some rs) (w0 : World) (lo : Ev.P) {σ : Sg} (t : TrE σ E E') {id : Ev.P} {o : Nat} {hF : H} (hrow : ∀ p o, hF.t.get p = some o → RowEl E' o) :
  GoodE E P N w0 lo (koM rs (.ptr id o) hF σ) (bodyPost P f (fun e w' => ∃ ρ', e = .returned ((V.ptr id o).γ E' ρ') ∧ Wd w0 lo ρ' hF w' ∧ Sat E' ρ' hF w')) := by
 intro ae fr h fa hk hfa ρ w a d hs hf hN hd
 cases ae with
 | normal => exact absurd (show (1 : Nat) = 0 from hk) (by simp)
 | exit i => exact absurd (show (1 : Nat) = 0 from hk) (by simp)
 | ret =>
  obtain ⟨vs, hvs, hr⟩ := oc_ok (show oc (resVs fr h rs) _ _ = 0 from hk) (by simp)
  obtain ⟨e1, b1⟩ := results_run hY hrs hs hf hvs
  have key : vs = [.ptr id o] ∧ matchB ⟨[], hF⟩ σ fr h = true := by
   match vs, hr with
   | [], hr =>
    obtain ⟨h1, _⟩ := bc_ok (show bc (V.beq (.tup []) (.ptr id o)) (bc (matchB ⟨[], hF⟩ σ fr h) 0 1) 1 = 0 from hr) (by simp)
    cases V.beq_ok h1
   | [v], hr =>
    obtain ⟨h1, hr⟩ := bc_ok (show bc (V.beq v (.ptr id o)) (bc (matchB ⟨[], hF⟩ σ fr h) 0 1) 1 = 0 from hr) (by simp)
    obtain ⟨h2, _⟩ := bc_ok hr (by simp)
    exact ⟨by rw [V.beq_ok h1], h2⟩
   | x :: y :: r, hr =>
    obtain ⟨h1, _⟩ := bc_ok (show bc (V.beq (.tup (x :: y :: r)) (.ptr id o)) (bc (matchB ⟨[], hF⟩ σ fr h) 0 1) 1 = 0 from hr) (by simp)
    cases V.beq_ok h1
  obtain ⟨rfl, hm⟩ := key
  obtain ⟨d2, s2, _⟩ := match_ok hm t hrow d hs hf
  refine ⟨hd, (V.ptr id o).γ E ρ, ?_, ρ, rfl, d2, s2⟩
  simpa [γL, V.γ] using e1
def ko1 : K2 := fun _ _ _ _ => 1
theorem ko1_good {w0 : World} {lo : Ev.P} {QQ : Exit → Act → World → Prop} : GoodE E P N w0 lo ko1 QQ := fun ae fr h fa hk => absurd (show (1 : Nat) = 0 from hk) (by simp)
theorem cutM_law {Y : Ty} (hY : TyOk P Y) (hm : P.follows .mixedOrders = true) {dr : Nat → Option Dr} {F : Nat} {f : Func} {q : CutX} (hfn : P.funcs[F]? = some f) (hc : cutX Y dr f = some q) (hw : drawF dr f = true)
  {st : Nat → GS} {Inv : Nat → Nat → Env → Prop} {w : World} {lo : Ev.P} {R : Ending → World → Prop}
  (round : cRes Y f.results.toList = some q.rs → ∀ m j E, Inv m j E → ∃ fa nx ko g, CallOk E P g.call ∧ FaOk E fa ∧ runZ st q.x (zOut q.z g ko) g j fa nx = 0 ∧ Leads st Inv E nx m ∧ GoodE E P f.ntmps w lo ko (bodyPost P f R))
  {E : Env} {g0 : Ctx} (h0 : CallOk E P g0.call) {l : List V} {h00 : H} {fa : Fa} (hfa : FaOk E fa) {nx : List (Nat × Sg)} (m : Nat) (hl : Leads st Inv E nx m)
  (hin : initFr l (fun fr => zIn q.z g0 fr h00 fa (fun fr h _ => nextK st nx fr h) ko1) = 0) (hlo : h00.lo = lo)
  {ρ : Rho} (hs : Sat E ρ h00 w) (hbd : bdL h00.n.toNat l) (hnew : ∀ p o, h00.t.get p = some o → o.live = true → h00.lo.toNat ≤ p.toNat → w.heap.size ≤ (ρ p).b) :
  Calls P F (γL E ρ l).toArray w R := by
 unfold cutX at hc
 split at hc
 rotate_left
 ·simp at hc
 rename_i c rs hb hrs
 split at hc
 rotate_left
 ·simp at hc
 rename_i z x hz
 simp at hc; subst hc
 have hcz := zipL_ok hz
 subst hcz
 unfold drawF at hw
 rw [hb] at hw
 obtain ⟨hBz, hB⟩ := plug_drB hw
 have round := round hrs
 obtain ⟨fr, hk, hfr⟩ := initFr_ok hin
 refine calls_of_wp hfn hb ?_
 have hf : FrOk E ρ h00.n.toNat fr ((γL E ρ l).toArray ++ Array.replicate (f.ntmps - (γL E ρ l).toArray.size) undef) := by
  intro t v hv
  have h2 := hfr t v hv
  have ht : t < l.length := (List.getElem?_eq_some_iff.1 h2).1
  refine ⟨?_, (bdL_eq _ l).1 hbd v (List.mem_of_getElem? h2)⟩
  rw [Array.getElem?_append_left (by simp [γL_length]; exact ht)]
  simp [γL_get, h2]
 have L : LoopOk P f.ntmps w lo x (zPost P z (bodyPost P f R)) st Inv := graph_rounds2 hY hm hB fun m j E hI => by
  obtain ⟨fa, nx, ko, g, hg, h1, h2, h3, h4⟩ := round m j E hI
  exact ⟨fa, nx, _, g, hg, h1, h2, h3, zOut_good hY hm hg z _ _ hBz h4⟩
 refine zIn_run hY hm h0 (w0 := w) (lo := lo) z fr h00 fa ko1 (bodyPost P f R) hBz hk hfa ko1_good ?_ ρ w _ ⟨hlo, rfl, rfl, rfl, Nat.le_refl _, fun _ _ => rfl, by rw [← hlo]; exact hnew⟩ hs hf (by simp [γL_length]; omega) rfl
 intro fr' h' fa' hk' hfa' ρ' w' a' d' s' f' n' dd'
 obtain ⟨hne, hall⟩ := nextK_ok hk'
 obtain ⟨j', σ, m', E', hmem, hlt, hI', ht, hrow⟩ := hl hne
 obtain ⟨d2, s2, f2⟩ := match_ok (hall _ hmem) ht hrow d' s' f'
 exact wp_loop_rounds (m' + 1) (L m' j' E' hI' ρ' w' a' d2 s2 f2 n' dd')
def refV (n : Ev.P) (v : V) : Bool := match v with
 | .ptr id _ => pLe n id
 | .sl id _ _ _ => pLe n id
 | .b _ => true
 | .i _ _ => true
 | .si _ _ => true
 | .nil => true
 | .snil => true
 | .fs _ _ => true
 | _ => false
def refO (n : Ev.P) (o : O) : Bool := match o with
 | .cells _ l => allB (refV n) l
 | .oa _ _ _ _ .nil => true
 | _ => false
def endCk (h hF : H) : Bool := pLe h.n hF.n && ptAll (fun p o => bif pLt p h.n then ooBeq (h.t.get p) (some o) else refO h.n o) (fun p => p) hF.t && ptAll (fun p o => ooBeq (hF.t.get p) (some o)) (fun p => p) h.t
theorem refV_ok {n : Ev.P} {ρ ρ' : Rho} (h : ∀ p : Ev.P, n.toNat ≤ p.toNat → ρ' p = ρ p) {v : V} (hv : refV n v = true) : v.γ E ρ' = v.γ E ρ := by
 cases v <;> simp only [refV] at hv <;> first | rfl | (simp at hv; done) | skip
 ·have := h _ (show n.toNat ≤ _ by simpa [pLe] using hv)
  simp only [V.γ, this]
 ·have := h _ (show n.toNat ≤ _ by simpa [pLe] using hv)
  simp only [V.γ, this]
theorem refL_ok {n : Ev.P} {ρ ρ' : Rho} (h : ∀ p : Ev.P, n.toNat ≤ p.toNat → ρ' p = ρ p) : ∀ {l : List V}, allB (refV n) l = true → γL E ρ' l = γL E ρ l
 | [], _ => rfl
 | v :: r, hl => by
  have h1 := allB_ok hl v (List.mem_cons_self ..)
  have h2 : allB (refV n) r = true := by
   have hl : bc (refV n v) (allB (refV n) r) false = true := hl
   rw [h1] at hl; exact hl
  simp only [γL, refV_ok h h1, refL_ok h h2]
theorem end_ext {ρ ρ' : Rho} {h hF : H} {w w' : World} (hs : Sat E ρ h w) (d : Wd w h.n ρ' ⟨hF.n, h.n, hF.t⟩ w') (s : Sat E ρ' ⟨hF.n, h.n, hF.t⟩ w') (hlo : hF.lo = h.lo) (hle : h.lo.toNat ≤ h.n.toNat) (hck : endCk h hF = true) :
  ∃ ρ2 : Rho, (∀ p : Ev.P, h.n.toNat ≤ p.toNat → ρ2 p = ρ' p) ∧ Sat E ρ2 hF w' ∧ Ext ρ h w ρ2 hF w' := by
 unfold endCk at hck
 simp only [Bool.and_eq_true] at hck
 obtain ⟨⟨hn, h1⟩, h2⟩ := hck
 have hn : h.n.toNat ≤ hF.n.toNat := by simpa [pLe] using hn
 have new : ∀ p o, hF.t.get p = some o → h.n.toNat ≤ p.toNat → refO h.n o = true := fun p o hp hge => by
  have := ptAll_ok _ _ p o h1 hp
  have e : pLt p h.n = false := by rw [Bool.eq_false_iff]; simp [pLt]; omega
  simp only [e] at this; exact this
 have old : ∀ p o, hF.t.get p = some o → p.toNat < h.n.toNat → h.t.get p = some o := fun p o hp hlt => by
  have := ptAll_ok _ _ p o h1 hp
  have e : pLt p h.n = true := by simp [pLt]; omega
  simp only [e, cond_true] at this
  exact ooBeq_ok this
 have kept : ∀ p o, h.t.get p = some o → hF.t.get p = some o := fun p o hp => ooBeq_ok (ptAll_ok _ _ p o h2 hp)
 obtain ⟨ρ2, hρ2⟩ : ∃ ρ2 : Rho, ρ2 = fun p => if p.toNat < h.n.toNat then ρ p else ρ' p := ⟨_, rfl⟩
 have a1 : ∀ p : Ev.P, p.toNat < h.n.toNat → ρ2 p = ρ p := fun p hp => by rw [hρ2]; exact if_pos hp
 have a2 : ∀ p : Ev.P, h.n.toNat ≤ p.toNat → ρ2 p = ρ' p := fun p hp => by rw [hρ2]; exact if_neg (by omega)
 refine ⟨ρ2, a2, ?_, ?_⟩
 ·refine ⟨fun p o hp => ?_, fun p q o o' hp hq l1 l2 he => ?_, s.bd⟩
  ·by_cases hlt : p.toNat < h.n.toNat
   ·have g := old p o hp hlt
    rw [a1 p hlt]
    exact O.Is_agree E a1 (hs.bd p o g).2 (O.Is_heap E (fun hl => d.keep _ (hs.lt E g hl)) (hs.obj p o g))
   ·have hr := new p o hp (by omega)
    rw [a2 p (by omega)]
    have hi := s.obj p o hp
    match o, hr with
    | .cells t l, hr =>
     show w'.heap[(ρ' p).b]? = _
     rw [refL_ok a2 hr]; exact hi
    | .oa t q n dd .nil, _ =>
     obtain ⟨i1, cs, i2, i3, i4, i5⟩ := hi
     refine ⟨i1, cs, i2, i3, i4, fun i hi => ?_⟩
     rw [i5 i hi]
     unfold ovAt
     rw [Tr.get_nil]
  ·by_cases hlt : p.toNat < h.n.toNat <;> by_cases hlq : q.toNat < h.n.toNat
   ·rw [a1 p hlt, a1 q hlq] at he
    exact hs.inj p q o o' (old p o hp hlt) (old q o' hq hlq) l1 l2 he
   ·rw [a1 p hlt, a2 q (by omega)] at he
    have k1 := hs.lt E (old p o hp hlt) (own_live l1)
    have k2 := d.new q o' hq l2 (by omega)
    omega
   ·rw [a2 p (by omega), a1 q hlq] at he
    have k1 := hs.lt E (old q o' hq hlq) l2
    have k2 := d.new p o hp (own_live l1) (by omega)
    omega
   ·rw [a2 p (by omega), a2 q (by omega)] at he
    exact s.inj p q o o' hp hq l1 l2 he
 ·refine ⟨hn, hlo, a1, fun p o hp hg hl => .inl ?_, d.os, d.tape, d.output, d.size, fun b hb _ => d.keep b hb, fun p hp hpn => ?_, fun p o hp hg hl => ?_⟩
  ·rw [a2 p hp]
   exact d.new p o hg hl (by omega)
  ·cases hg : h.t.get p with
   | some o => exact kept p o hg
   | none =>
    cases hg2 : hF.t.get p with
    | none => rfl
    | some o =>
     have := old p o hg2 hpn
     rw [hg] at this; cases this
  ·exact ⟨o, old p o hg hp, hl⟩
theorem memoM_ok {m : Memo} {inner : CallT} (h1 : CallOk E P inner) (hca : Callable P m.F) (hlo : m.h'.lo = m.h.lo) (hle : m.h.lo.toNat ≤ m.h.n.toNat) (hck : endCk m.h m.h' = true) {id : Ev.P} {o : Nat} (hv : m.v = .ptr id o) (hid : m.h.n.toNat ≤ id.toNat ∧ id.toNat < m.h'.n.toNat)
  (hrun : ∀ ρ w, Sat E ρ ⟨m.h.n, m.h.n, m.h.t⟩ w → Calls P m.F (γL E ρ m.l).toArray w fun e w' => ∃ ρ', e = .returned (m.v.γ E ρ') ∧ Wd w m.h.n ρ' ⟨m.h'.n, m.h.n, m.h'.t⟩ w' ∧ Sat E ρ' ⟨m.h'.n, m.h.n, m.h'.t⟩ w') : CallOk E P (memo m inner) := by
 intro F l h fa k hk hfa
 unfold memo at hk
 cases e1 : Nat.beq F m.F with
 | false => rw [e1] at hk; exact h1 F l h fa k hk hfa
 | true =>
  rw [e1] at hk
  have hk : bc (vlBeq l m.l) (bc (H.beq h m.h) (k m.v m.h' fa) (inner F l h fa k)) (inner F l h fa k) = 0 := hk
  cases e2 : vlBeq l m.l with
  | false => rw [e2] at hk; exact h1 F l h fa k hk hfa
  | true =>
   rw [e2] at hk
   have hk : bc (H.beq h m.h) (k m.v m.h' fa) (inner F l h fa k) = 0 := hk
   cases e3 : H.beq h m.h with
   | false => rw [e3] at hk; exact h1 F l h fa k hk hfa
   | true =>
    rw [e3] at hk
    have hk : k m.v m.h' fa = 0 := hk
    have e1 : F = m.F := by simpa using e1
    have e2 := vlBeq_ok e2
    have e3 := H.beq_ok e3
    subst e1; subst e2; subst e3
    refine ⟨hca, m.v, m.h', fa, hk, hfa, fun ρ w _ hs => (hrun ρ w ⟨hs.obj, hs.inj, hs.bd⟩).mono ?_⟩
    rintro e w' ⟨ρ', he, d, s⟩
    obtain ⟨ρ2, g1, g2, g3⟩ := end_ext hs d s hlo hle hck
    refine ⟨ρ2, ?_, g2, g3, ?_⟩
    ·rw [he, hv]
     simp only [V.γ, g1 id hid.1]
    ·rw [hv]; exact hid.2
end Go.Ev
end
