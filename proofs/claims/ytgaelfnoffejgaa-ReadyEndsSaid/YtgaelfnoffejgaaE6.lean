/-
 Contracts over memories whose words are all unknown; such contracts as hooks.
-/
import Derived.Test.YtgaelfnoffejgaaE5
import Derived.Test.YtgaelfnoffejgaaE4
import Derived.Test.YtgaelfnoffejgaaE3
set_option linter.unusedSimpArgs false
set_option linter.unusedVariables false
noncomputable section
namespace Go.Ev
open Go
variable {E E' : Env} {P : Program}
def WordsIs (cs : Array Value) (N : Nat) (f : Nat → Int) : Prop := cs.size = N ∧ ∀ i, i < N → cs[i]? = some (.int .u64 (f i))
def wordsA (N : Nat) (f : Nat → Int) : Array Value := Array.ofFn (n := N) fun i => Value.int .u64 (f i)
theorem wordsA_is (N : Nat) (f : Nat → Int) : WordsIs (wordsA N f) N f := ⟨by simp [wordsA], fun i hi => by simp [wordsA, hi]⟩
def rowF (N : Nat) (f : Nat → Int) : Row := ⟨0, 0, 0, 0, 0, 0, 0, wordsA N f, (0, 0)⟩
theorem rowF_is (N : Nat) (f : Nat → Int) : WordsIs (rowF N f).cs N f := wordsA_is N f
structure MemAt (c : MC) (w : World) (bm ba : Nat) (f : Nat → Int) (st : Int) : Prop where
 ne : bm ≠ ba
 m : w.heap[bm]? = some (.cells #[.slice (some ⟨ba, 0, none⟩) c.N c.N, .int .i64 st] c.tM (0, 0))
 a : ∃ cs, w.heap[ba]? = some (.cells cs c.tA (0, 0)) ∧ WordsIs cs c.N f
structure KeepM (bm ba : Nat) (w w' : World) : Prop where
 os : w'.os = w.os
 tape : w'.tape = w.tape
 output : w'.output = w.output
 size : w.heap.size ≤ w'.heap.size
 keep : ∀ b, b < w.heap.size → b ≠ bm → b ≠ ba → w'.heap[b]? = w.heap[b]?
def stepI (st : Int) (k : Nat) : Int := if k = 0 then st else arS .add .i64 st k
def MemC (P : Program) (c : MC) (F : Nat) (args : List Value) (f : Nat → Int) (v : Value) (f' : Nat → Int) (k : Nat) : Prop :=
 Callable P F ∧ ∀ w bm ba st, MemAt c w bm ba f st → Calls P F (Value.pointer (some ⟨bm, 0, none⟩) :: args).toArray w fun e w' => e = .returned v ∧ MemAt c w' bm ba f' (stepI st k) ∧ KeepM bm ba w w'
theorem stP_den (E : Env) (k : Nat) : (stP k).den E = stepI (E.i 5) k := by
 unfold stP stepI
 by_cases h : k = 0
 ·subst h; rfl
 ·have : Nat.beq k 0 = false := by
   cases k with
   | zero => exact absurd rfl h
   | succ n => rfl
  rw [this, if_neg h]; rfl
structure Ent where
 F : Nat
 l : List V
 q' : Nat
 v : V
 k : SE
def stE (fa : Fa) (e k : SE) : V := mkE .i64 (opS fa .add .i64 e k)
theorem stE_γ {fa : Fa} (hf : FaOk E fa) (e k : SE) (ρ : Rho) : (stE fa e k).γ E ρ = .int .i64 (arS .add .i64 (e.den E) (k.den E)) ∧ (stE fa e k).bd 0 := by
 unfold stE
 obtain ⟨g1, g2⟩ := mkE_γ (E := E) .i64 (opS fa .add .i64 e k) ρ
 exact ⟨by rw [g1, opS_ok hf], g2⟩
def oaO {σ : Type} (o : O) (f : TypeId → Nat → Nat → Nat → Tr V → σ) (e : σ) : σ := match o with
 | .oa t q n d tr => f t q n d tr
 | _ => e
def trNil (t : Tr V) : Bool := match t with
 | .nil => true
 | _ => false
def mt2 (c : MC) (e : Ent) (F : Nat) (fa : Fa) (m id : Ev.P) (st : SE) (r : List V) : Option AR :=
 bc (Nat.beq F e.F && vlBeq r e.l && bdLB .h e.l && e.v.bdB .h) (some ⟨m, id, .cells c.tM [.sl id 0 c.N c.N, stE fa st e.k], .oa c.tA e.q' c.N 13 .nil, e.v⟩) none
def mt1 (c : MC) (tbl : Nat → Option Ent) (F : Nat) (h : H) (fa : Fa) (r : List V) (m : Ev.P) : Option AR :=
 bc (hmay h m) (oc (hget h m) (fun o => memO o (fun tm id n n' st => bc (Nat.beq tm c.tM && Nat.beq n c.N && Nat.beq n' c.N && hmay h id) (oc (hget h id) (fun oi => oaO oi (fun ta q n2 d tr =>
  bc (Nat.beq ta c.tA && Nat.beq n2 c.N && Nat.beq d 13 && trNil tr) (oc (tbl q) (fun e => mt2 c e F fa m id st r) none) none) none) none) none) none) none) none
def mtTry (c : MC) (tbl : Nat → Option Ent) (F : Nat) (l : List V) (h : H) (fa : Fa) : Option AR :=
 lCase none (fun x r => vPtr (some x) (fun m off => bc (Nat.beq off 0) (mt1 c tbl F h fa r m) none) none) l
def mtH (c : MC) (tbl : Nat → Option Ent) (inner : CallT) : CallT := fun F l h fa k =>
 oc (mtTry c tbl F l h fa) (fun x => x.go (fun m id om oi v => hc h (fun n lo t => setK m t om (fun t => setK id t oi (fun t => k v ⟨n, lo, t⟩ fa))))) (inner F l h fa k)
def EntOk (P : Program) (c : MC) (E : Env) (q : Nat) (e : Ent) : Prop := ∃ f f' k, 1 ≤ k ∧ e.k.den E = (k : Nat) ∧ WordsIs (E.s q).cs c.N f ∧ WordsIs (E.s e.q').cs c.N f' ∧ ∀ ρ, MemC P c e.F (γL E ρ e.l) f (e.v.γ E ρ) f' k
theorem oaO_ok {β : Type} {o : O} {f : TypeId → Nat → Nat → Nat → Tr V → Option β} {r : β} (h : oaO o f none = some r) : ∃ t q n d tr, o = .oa t q n d tr ∧ f t q n d tr = some r := by
 unfold oaO at h
 split at h
 ·exact ⟨_, _, _, _, _, rfl, h⟩
 ·cases h
theorem mtTry_ok {c : MC} {tbl : Nat → Option Ent} (ht : ∀ q e, tbl q = some e → EntOk P c E q e) {F : Nat} {l : List V} {h : H} {fa : Fa} (hfa : FaOk E fa) {x : AR} (ha : mtTry c tbl F l h fa = some x) :
  Callable P F ∧ x.v.bd 1 ∧ ∀ ρ w, Sat E ρ h w → Calls P F (γL E ρ l).toArray w fun e w' => e = .returned (x.v.γ E ρ) ∧ Sat E ρ (h.two x.m x.id x.om x.oi) w' ∧ Ext ρ h w ρ (h.two x.m x.id x.om x.oi) w' := by
 unfold mtTry at ha
 cases l with
 | nil => cases ha
 | cons a r =>
 obtain ⟨m, hm0, ha1⟩ : ∃ m, a = .ptr m 0 ∧ mt1 c tbl F h fa r m = some x := by
  have ha2 : vPtr (some a) (fun m off => bc (Nat.beq off 0) (mt1 c tbl F h fa r m) none) none = some x := ha
  clear ha
  cases a <;> first | (cases ha2; done) | skip
  rename_i m off
  obtain ⟨h1, h2⟩ := bs_ok (show bc (Nat.beq off 0) (mt1 c tbl F h fa r m) none = some x from ha2)
  have h1 : off = 0 := by simpa using h1
  rw [h1]
  exact ⟨m, rfl, h2⟩
 clear ha
 subst hm0
 unfold mt1 at ha1
 obtain ⟨hmm, ha2⟩ := bs_ok ha1
 obtain ⟨om0, hom, ha3⟩ := os_ok ha2
 rw [hget_eq] at hom
 obtain ⟨tm, id, n, n', stv, st, e0, ha4, hst⟩ := memO_ok ha3
 obtain ⟨hb, ha5⟩ := bs_ok ha4
 simp only [Bool.and_eq_true, Nat.beq_eq] at hb
 obtain ⟨⟨⟨e1, e2⟩, e3⟩, hmi⟩ := hb
 obtain ⟨oi0, hoi, ha6⟩ := os_ok ha5
 rw [hget_eq] at hoi
 obtain ⟨ta, q, n2, d, tr, e4, ha7⟩ := oaO_ok ha6
 obtain ⟨hb, ha8⟩ := bs_ok ha7
 simp only [Bool.and_eq_true, Nat.beq_eq] at hb
 obtain ⟨⟨⟨e5, e6⟩, e7⟩, e8⟩ := hb
 obtain ⟨e, he, ha9⟩ := os_ok ha8
 have e8 : tr = .nil := by cases tr <;> first | rfl | (cases e8; done)
 clear ha1 ha2 ha3 ha4 ha5 ha6 ha7 ha8
 subst e0 e1 e2 e3 e4 e5 e6 e7 e8
 unfold mt2 at ha9
 obtain ⟨hb, ha9⟩ := bs_ok ha9
 simp only [Bool.and_eq_true, Nat.beq_eq] at hb
 obtain ⟨⟨⟨g1, g2⟩, g3⟩, g4⟩ := hb
 have ha9 := Option.some.inj ha9
 subst ha9
 have g2 := vlBeq_ok g2
 subst g1 g2
 have hv1 : e.v.bd 1 := bdB_ok (n := .h) _ g4
 obtain ⟨f, f', k0, hk1, hkd, hw, hw', hc⟩ := ht q e he
 have hne : m ≠ id := by
  intro e
  subst e
  rw [hom] at hoi
  cases hoi
 refine ⟨(hc (fun _ => ⟨0, 0⟩)).1, hv1, fun ρ w hs => ?_⟩
 obtain ⟨hn13, cs, hcs, hsz, _, hcell⟩ := hs.obj id _ hoi
 have hmem : w.heap[(ρ m).b]? = some (.cells #[.slice (some ⟨(ρ id).b, 0, none⟩) c.N c.N, stv.γ E ρ] c.tM (0, 0)) := hs.obj m _ hom
 have hbne : (ρ m).b ≠ (ρ id).b := fun h => hne (hs.inj m id _ _ hom hoi rfl rfl h)
 have hat : MemAt c w (ρ m).b (ρ id).b f (st.den E) := ⟨hbne, by rw [hmem, hst], cs, hcs, hsz, fun i hi => by
  rw [hcell i hi]
  unfold ovAt
  rw [Tr.get_nil]
  exact hw.2 i hi⟩
 refine ((hc ρ).2 w _ _ _ hat).mono ?_
 rintro ex w' ⟨he, ⟨_, am, cs', acs, aws⟩, hk⟩
 obtain ⟨s1, s2⟩ := stE_γ hfa st e.k ρ
 have hst0 : stepI (st.den E) k0 = arS .add .i64 (st.den E) (e.k.den E) := by unfold stepI; rw [if_neg (by omega), hkd]
 refine ⟨he, ?_⟩
 refine sat_two hs hom hoi rfl rfl hne (hmay_iff h m hmm) (hmay_iff h id hmi) ?_ ?_ ?_ ?_ hk.os hk.tape hk.output hk.size hk.keep
 ·show w'.heap[(ρ m).b]? = some (.cells (γL E ρ [.sl id 0 c.N c.N, stE fa st e.k]).toArray c.tM (0, 0))
  rw [am, hst0]
  simp only [γL, s1]
  rfl
 ·refine ⟨hn13, cs', acs, aws.1, hw'.1, fun i hi => ?_⟩
  rw [aws.2 i hi]
  unfold ovAt
  rw [Tr.get_nil]
  exact (hw'.2 i hi).symm
 ·exact ⟨(hs.bd id _ hoi).1, bd_mono (Nat.zero_le _) _ s2, trivial⟩
 ·exact fun i v _ hv => by rw [Tr.get_nil] at hv; cases hv
theorem mtH_ok {c : MC} {tbl : Nat → Option Ent} (ht : ∀ q e, tbl q = some e → EntOk P c E q e) {inner : CallT} (hi : CallOk E P inner) : CallOk E P (mtH c tbl inner) := by
 intro F l h fa k hk hfa
 have hk : oc (mtTry c tbl F l h fa) (fun x => x.go (fun m id om oi v => hc h (fun n lo t => setK m t om (fun t => setK id t oi (fun t => k v ⟨n, lo, t⟩ fa))))) (inner F l h fa k) = 0 := hk
 cases ha : mtTry c tbl F l h fa with
 | none =>
  rw [ha] at hk
  exact hi F l h fa k hk hfa
 | some x =>
  rw [ha] at hk
  obtain ⟨hca, hbv, hrun⟩ := mtTry_ok ht hfa ha
  cases x with
  | mk m id om oi v =>
  have hk : hc h (fun n lo t => setK m t om (fun t => setK id t oi (fun t => k v ⟨n, lo, t⟩ fa))) = 0 := hk
  rw [hc_eq, setK_eq, setK_eq] at hk
  refine ⟨hca, v, h.two m id om oi, fa, hk, hfa, fun ρ w hb hs => (hrun ρ w hs).mono ?_⟩
  rintro e w' ⟨he, hs', hx'⟩
  exact ⟨ρ, he, hs', hx', bd_mono (Ev.P.toNat_pos _) v hbv⟩
def hMem (c : MC) (q : Nat) (tr : Tr V) : H := ⟨.i .h, .h, ((PT.e : PT O).set .h (.oa c.tA q c.N 13 tr)).set (.o .h) (.cells c.tM [.sl .h 0 c.N c.N, .si .i64 (.v 5)])⟩
def okM (c : MC) (v : V) (q' : Nat) (tr' : Tr V) (sE : SE) : K := fun u h _ => bc (V.beq u v) (bc (ooBeq (h.t.get .h) (some (.oa c.tA q' c.N 13 tr'))) (bc (ooBeq (h.t.get (.o .h)) (some (.cells c.tM [.sl .h 0 c.N c.N, .si .i64 sE]))) 0 1) 1) 1
def ovIs (E : Env) (q N : Nat) (tr : Tr V) (f : Nat → Int) : Prop := (E.s q).cs.size = N ∧ ∀ (ρ : Rho) i, i < N → ovAt E (E.s q).cs tr 13 ρ i = some (.int .u64 (f i))
theorem ovIs_nil {q N : Nat} {f : Nat → Int} (h : WordsIs (E.s q).cs N f) : ovIs E q N .nil f := ⟨h.1, fun ρ i hi => by unfold ovAt; rw [Tr.get_nil]; exact h.2 i hi⟩
theorem hMem_get {c : MC} {q : Nat} {tr : Tr V} {p : Ev.P} {o : O} (h : (hMem c q tr).t.get p = some o) : (p = .h ∧ o = .oa c.tA q c.N 13 tr) ∨ (p = .o .h ∧ o = .cells c.tM [.sl .h 0 c.N c.N, .si .i64 (.v 5)]) := by
 have h : (((PT.e : PT O).set .h (.oa c.tA q c.N 13 tr)).set (.o .h) (.cells c.tM [.sl .h 0 c.N c.N, .si .i64 (.v 5)])).get p = some o := h
 by_cases e : p = .o .h
 ·subst e
  rw [PT.get_set_same] at h
  exact .inr ⟨rfl, (Option.some.inj h).symm⟩
 ·rw [PT.get_set_other _ _ _ _ (fun h => e h.symm)] at h
  by_cases e2 : p = .h
  ·subst e2
   rw [PT.get_set_same] at h
   exact .inl ⟨rfl, (Option.some.inj h).symm⟩
  ·rw [PT.get_set_other _ _ _ _ (fun h => e2 h.symm), PT.get_e] at h
   cases h
theorem memC_of_run {c : MC} (hN : c.N ≤ 8192) {F : Nat} {call : CallT} {l : List V} {v : V} {q q' k : Nat} {sE : SE} {tr tr' : Tr V} {fa : Fa} {f f' : Nat → Int} {args : List Value} {ret : Value} (hl : bdL 1 l) (htr : ∀ i v, i < 2 ^ 13 → tr.get 13 i = some v → v.bd 1)
  (hE : ∀ st : Int, ∃ E : Env, E.i 5 = st ∧ sE.den E = stepI st k ∧ CallOk E P call ∧ FaOk E fa ∧ ovIs E q c.N tr f ∧ ovIs E q' c.N tr' f' ∧ (∀ ρ, γL E ρ l = args) ∧ ∀ ρ, v.γ E ρ = ret)
  (hr : call F (.ptr (.o .h) 0 :: l) (hMem c q tr) fa (okM c v q' tr' sE) = 0) : MemC P c F args f ret f' k := by
 refine ⟨?_, fun w bm ba st hat => ?_⟩
 ·obtain ⟨E, _, _, hc, hfa, _⟩ := hE 0
  exact (hc _ _ _ _ _ hr hfa).1
 obtain ⟨E, h5, hsE, hc, hfa, ho, ho', hargs, hret⟩ := hE st
 obtain ⟨_, v0, h0, fa0, hk0, _, hrun⟩ := hc _ _ _ _ _ hr hfa
 unfold okM at hk0
 obtain ⟨q1, hk0⟩ := bc_ok hk0 (by simp)
 obtain ⟨q2, hk0⟩ := bc_ok hk0 (by simp)
 obtain ⟨q3, _⟩ := bc_ok hk0 (by simp)
 have q1 := V.beq_ok q1
 have q2 := ooBeq_ok q2
 have q3 := ooBeq_ok q3
 subst q1
 obtain ⟨ρ, hρ⟩ : ∃ ρ : Rho, ρ = fun p => match p with | .h => ⟨ba, 0⟩ | _ => ⟨bm, 0⟩ := ⟨_, rfl⟩
 have hρ1 : ρ .h = ⟨ba, 0⟩ := by rw [hρ]
 have hρ2 : ρ (.o .h) = ⟨bm, 0⟩ := by rw [hρ]
 obtain ⟨hne, hm, cs, hcs, hws⟩ := hat
 have hsat : Sat E ρ (hMem c q tr) w := by
  refine ⟨fun p o hp => ?_, fun p q o o' hp hq _ _ hh => ?_, fun p o hp => ?_⟩
  ·rcases hMem_get hp with ⟨rfl, rfl⟩ | ⟨rfl, rfl⟩
   ·rw [hρ1]
    exact ⟨by omega, cs, hcs, hws.1, ho.1, fun i hi => by rw [ho.2 ρ i hi, hws.2 i hi]⟩
   ·rw [hρ2]
    show w.heap[bm]? = some (.cells (γL E ρ [.sl .h 0 c.N c.N, .si .i64 (.v 5)]).toArray c.tM (0, 0))
    rw [hm]
    simp only [γL, V.γ, hρ1, SE.den, h5]
  ·rcases hMem_get hp with ⟨rfl, rfl⟩ | ⟨rfl, rfl⟩ <;> rcases hMem_get hq with ⟨rfl, rfl⟩ | ⟨rfl, rfl⟩
   ·rfl
   ·rw [hρ1, hρ2] at hh; exact absurd hh.symm hne
   ·rw [hρ1, hρ2] at hh; exact absurd hh hne
   ·rfl
  ·rcases hMem_get hp with ⟨rfl, rfl⟩ | ⟨rfl, rfl⟩
   ·exact ⟨by show (1 : Nat) < 3; decide, fun i v hi hv => bd_mono (by show (1 : Nat) ≤ 3; decide) v (htr i v hi hv)⟩
   ·exact ⟨by show (2 : Nat) < 3; decide, by show (1 : Nat) < 3; decide, trivial, trivial⟩
 have hbd : bdL (hMem c q tr).n.toNat (.ptr (.o .h) 0 :: l) := ⟨by show (2 : Nat) < 3; decide, bdL_mono (by show (1 : Nat) ≤ 3; decide) _ hl⟩
 have hrun := hrun ρ w hbd hsat
 have hγ : γL E ρ (.ptr (.o .h) 0 :: l) = Value.pointer (some ⟨bm, 0, none⟩) :: args := by
  show V.γ E ρ (.ptr (.o .h) 0) :: γL E ρ l = _
  rw [hargs]
  simp only [V.γ, hρ2]
 rw [hγ] at hrun
 refine hrun.mono ?_
 rintro e w' ⟨ρ2, he, hs', hx', _⟩
 have a1 : ρ2 .h = ⟨ba, 0⟩ := by rw [hx'.agree .h (by show (1 : Nat) < 3; decide), hρ1]
 have a2 : ρ2 (.o .h) = ⟨bm, 0⟩ := by rw [hx'.agree (.o .h) (by show (2 : Nat) < 3; decide), hρ2]
 refine ⟨by rw [he, hret], ?_, hx'.os, hx'.tape, hx'.output, hx'.size, fun b hb n1 n2 => hx'.keep b hb fun p o hp _ _ => ?_⟩
 ·have i1 := hs'.obj .h _ q2
  have i2 := hs'.obj (.o .h) _ q3
  rw [a1] at i1
  rw [a2] at i2
  obtain ⟨_, cs', k1, k2, k3, k4⟩ := i1
  refine ⟨hne, ?_, cs', k1, k2, fun i hi => by rw [k4 i hi, ho'.2 ρ2 i hi]⟩
  have i2 : w'.heap[bm]? = some (.cells (γL E ρ2 [.sl .h 0 c.N c.N, .si .i64 sE]).toArray c.tM (0, 0)) := i2
  rw [i2]
  simp only [γL, V.γ, a1, hsE]
 ·rcases hMem_get hp with ⟨rfl, rfl⟩ | ⟨rfl, rfl⟩
  ·rw [hρ1]; exact fun e => n2 e.symm
  ·rw [hρ2]; exact fun e => n1 e.symm
end Go.Ev
end
/-
 Contracts out of summaries; words of fields in symbols.
-/
set_option linter.unusedSimpArgs false
set_option linter.unusedVariables false
noncomputable section
namespace Go.Ev
open Go
variable {E E' : Env} {P : Program}
def upd (f : Nat → Int) (a : Nat) (x : Int) : Nat → Int := fun i => if i = a then x else f i
theorem upd_same (f : Nat → Int) (a : Nat) (x : Int) : upd f a x a = x := if_pos rfl
theorem upd_other (f : Nat → Int) {a i : Nat} (x : Int) (h : i ≠ a) : upd f a x i = f i := if_neg h
theorem upd_id (f : Nat → Int) (a : Nat) : upd f a (f a) = f := funext fun i => by unfold upd; split <;> simp_all
theorem upd_idx (f : Nat → Int) (a : Nat) {x : Int} (h : x = f a) : upd f a x = f := by rw [h, upd_id]
def RS.u64 : RS → Bool
 | .i k _ => kEq k .u64
 | .s k _ => kEq k .u64
 | _ => false
def RS.num (E : Env) : RS → Int
 | .i _ n => n
 | .s _ e => e.den E
 | _ => 0
theorem RS.num_ok {r : RS} (h : r.u64 = true) (ρ : Rho) : r.v.γ E ρ = .int .u64 (r.num E) := by
 cases r with
 | i k n => rw [show (RS.i k n).v = .i k n from rfl, kEq_eq (show kEq k .u64 = true from h)]; rfl
 | s k e => rw [show (RS.s k e).v = .si k e from rfl, kEq_eq (show kEq k .u64 = true from h)]; rfl
 | b x => cases h
 | c d => cases h
def wrI (E : Env) : List (Nat × RS) → (Nat → Int) → (Nat → Int)
 | [], f => f
 | (a, v) :: r, f => wrI E r (upd f a (v.num E))
theorem ovIs_rd {q N : Nat} (hN : N ≤ 8192) {f : Nat → Int} (hq : WordsIs (E.s q).cs N f) {l : List (Nat × Nat)} (hl : ∀ p ∈ l, p.1 < 8192) (hs : ∀ p ∈ l, E.i p.2 = f p.1) : ovIs E q N (trRd l) f := by
 refine ⟨hq.1, fun ρ i hi => ?_⟩
 unfold ovAt
 cases e : (trRd l).get 13 i with
 | none => exact hq.2 i hi
 | some v =>
  obtain ⟨y, g1, rfl⟩ := trRd_get (by omega) hl e
  show some (Value.int .u64 (E.i y)) = _
  rw [hs _ g1]
theorem ovIs_wr {q N : Nat} (hN : N ≤ 8192) : ∀ {l : List (Nat × RS)} {tr : Tr V} {f : Nat → Int}, (∀ p ∈ l, p.1 < 8192 ∧ p.2.u64 = true) → ovIs E q N tr f → ovIs E q N (trWr tr l) (wrI E l f)
 | [], tr, f, _, h => h
 | (a, v) :: r, tr, f, hl, h => by
  have h1 := hl _ (List.mem_cons_self ..)
  refine ovIs_wr hN (l := r) (tr := tr.set 13 a v.v) (f := upd f a (v.num E)) (fun p hp => hl p (List.mem_cons_of_mem _ hp)) ⟨h.1, fun ρ i hi => ?_⟩
  have h2 := h.2 ρ i hi
  unfold ovAt at h2 ⊢
  rw [Tr.get_set 13 _ _ _ _ h1.1 (by show i < 8192; omega)]
  unfold upd
  by_cases e : i = a
  ·rw [if_pos e, if_pos e]
   show some _ = _
   rw [RS.num_ok h1.2 ρ]
  ·rw [if_neg e, if_neg e]
   exact h2
theorem memC_of_sm {c : MC} {F : Nat} {call0 : CallT} {s : Sm} (hwf : s.wf c = true) (hu : allB (fun p : Nat × RS => p.2.u64) s.wr = true) (hr : s.run c F call0 = 0) {f f' : Nat → Int} {args : List Value} {ret : Value}
  (hE : ∀ st : Int, ∃ E : Env, E.i 5 = st ∧ CallOk E P call0 ∧ FaOk E ⟨s.fa, []⟩ ∧ WordsIs (E.s 7).cs c.N f ∧ (∀ p ∈ s.rd, E.i p.2 = f p.1) ∧ (wrI E s.wr f = f') ∧ (∀ ρ, γL E ρ (mapV PA.v s.l) = args) ∧ ∀ ρ, s.v.v.γ E ρ = ret) : MemC P c F args f ret f' s.st := by
 unfold Sm.wf at hwf
 simp only [Bool.and_eq_true] at hwf
 obtain ⟨⟨hN, hrd⟩, hwr⟩ := hwf
 have hN : c.N ≤ 8192 := by simpa using hN
 have hrd : ∀ q ∈ s.rd, q.1 < c.N := fun q hq => by simpa using allB_ok hrd q hq
 have hwr : ∀ q ∈ s.wr, q.1 < c.N := fun q hq => by simpa using allB_ok hwr q hq
 have hrd2 : ∀ q ∈ s.rd, q.1 < 8192 := fun q hq => by have := hrd q hq; omega
 refine memC_of_run (q := 7) (q' := 7) (tr := trRd s.rd) (tr' := trWr (trRd s.rd) s.wr) hN (bdL_mono (Nat.zero_le _) _ (mapPA_bd s.l)) (fun i v hi hv => by
  obtain ⟨y, _, rfl⟩ := trRd_get hi hrd2 hv
  exact trivial) (fun st => ?_) hr
 obtain ⟨E, h5, hc, hfa, h7, hs, hw, ha, hv⟩ := hE st
 have h1 := ovIs_rd hN h7 hrd2 hs
 refine ⟨E, h5, by rw [stP_den, h5], hc, hfa, h1, ?_, ha, hv⟩
 rw [← hw]
 exact ovIs_wr hN (fun p hp => ⟨by have := hwr p hp; omega, allB_ok hu p hp⟩) h1
theorem fld_val {w : Int} (a n : Nat) {M : Int} (hM : M = (2 ^ n - 1) * 2 ^ a) (ha : a + n ≤ 64) (h0 : 0 ≤ w) (h1 : w < 18446744073709551616) : arS .shr .u64 (arS .and .u64 w M) (a : Int) = w / 2 ^ a % 2 ^ n := by
 obtain ⟨x, rfl⟩ := Int.eq_ofNat_of_zero_le h0
 have hp : 0 < 2 ^ n := Nat.two_pow_pos n
 have hq : 0 < 2 ^ a := Nat.two_pow_pos a
 have hlt : (2 ^ n - 1) * 2 ^ a < 18446744073709551616 := by
  have h : 2 ^ n * 2 ^ a ≤ 2 ^ 64 := by rw [← Nat.pow_add]; exact Nat.pow_le_pow_right (by omega) (by omega)
  have h2 : (2 ^ n - 1) * 2 ^ a < 2 ^ n * 2 ^ a := Nat.mul_lt_mul_of_pos_right (by omega) hq
  have : (2 : Nat) ^ 64 = 18446744073709551616 := by decide
  omega
 have e : M = (((2 ^ n - 1) * 2 ^ a : Nat) : Int) := by
  rw [hM, Int.natCast_mul, Int.natCast_sub (by omega)]; simp
 rw [e, arS_and x _ (by omega) hlt, shr_val a (by omega) (Int.natCast_nonneg _)]
 have : Nat.land x ((2 ^ n - 1) * 2 ^ a) / 2 ^ a = x / 2 ^ a % 2 ^ n := by
  show (x &&& ((2 ^ n - 1) * 2 ^ a)) / 2 ^ a = _
  rw [← Nat.shiftRight_eq_div_pow, Nat.shiftRight_and_distrib, Nat.shiftRight_eq_div_pow, Nat.shiftRight_eq_div_pow, Nat.mul_div_cancel _ hq, Nat.and_two_pow_sub_one_eq_mod]
 have h3 : (((Nat.land x ((2 ^ n - 1) * 2 ^ a) / 2 ^ a : Nat)) : Int) = ((x / 2 ^ a % 2 ^ n : Nat) : Int) := by rw [this]
 simpa using h3
theorem den_fld {e : SE} {w : Int} (a n : Nat) {M : Int} (hM : M = (2 ^ n - 1) * 2 ^ a) (ha : a + n ≤ 64) (he : e.den E = w) (h0 : 0 ≤ w) (h1 : w < 18446744073709551616) : SE.den E (.op .shr .u64 (.op .and .u64 e (.lit M)) (.lit (a : Int))) = w / 2 ^ a % 2 ^ n := by
 show arS .shr .u64 (arS .and .u64 (e.den E) M) (a : Int) = _
 rw [he, fld_val a n hM ha h0 h1]
theorem land_low {x a y : Nat} (hx : x < 2 ^ a) : Nat.land x (y * 2 ^ a) = 0 := by
 show x &&& (y * 2 ^ a) = 0
 apply Nat.eq_of_testBit_eq
 intro i
 rw [Nat.testBit_and, Nat.zero_testBit]
 by_cases h : a ≤ i
 ·rw [Nat.testBit_lt_two_pow (Nat.lt_of_lt_of_le hx (Nat.pow_le_pow_right (by decide) h))]; rfl
 ·rw [Nat.testBit_mul_two_pow]; simp [h]
theorem pk_val {x v : Int} (a n : Nat) {M : Int} (hM : M = (2 ^ n - 1) * 2 ^ a) (ha : a + n ≤ 64) (h0 : 0 ≤ x) (h1 : x < 2 ^ a) (v0 : 0 ≤ v) (v1 : v < 2 ^ n) :
  arS .or .u64 (arS .andNot .u64 x M) (arS .shl .u64 v (a : Int)) = x + v * 2 ^ a := by
 obtain ⟨y, rfl⟩ := Int.eq_ofNat_of_zero_le h0
 obtain ⟨u, rfl⟩ := Int.eq_ofNat_of_zero_le v0
 have hq : 0 < 2 ^ a := Nat.two_pow_pos a
 have h64 : (2 : Nat) ^ 64 = 18446744073709551616 := by decide
 have hp : 0 < 2 ^ n := Nat.two_pow_pos n
 have c1 : ((2 ^ a : Nat) : Int) = 2 ^ a := by simp
 have c2 : ((2 ^ n : Nat) : Int) = 2 ^ n := by simp
 have hy : y < 2 ^ a := by omega
 have hu : u < 2 ^ n := by omega
 have hmul : 2 ^ n * 2 ^ a ≤ 18446744073709551616 := by rw [← h64, ← Nat.pow_add]; exact Nat.pow_le_pow_right (by omega) (by omega)
 have hle : 2 ^ a ≤ 18446744073709551616 := by rw [← h64]; exact Nat.pow_le_pow_right (by omega) (by omega)
 have hua : u * 2 ^ a + 2 ^ a ≤ 2 ^ n * 2 ^ a := by
  have : (u + 1) * 2 ^ a ≤ 2 ^ n * 2 ^ a := Nat.mul_le_mul_right _ hu
  rw [Nat.add_mul, Nat.one_mul] at this; exact this
 have hlt : (2 ^ n - 1) * 2 ^ a < 18446744073709551616 := by
  have h2 : (2 ^ n - 1) * 2 ^ a < 2 ^ n * 2 ^ a := Nat.mul_lt_mul_of_pos_right (by omega) hq
  omega
 have e : M = (((2 ^ n - 1) * 2 ^ a : Nat) : Int) := by
  rw [hM, Int.natCast_mul, Int.natCast_sub (by omega)]; simp
 have e2 : (u : Int) * 2 ^ a = ((u * 2 ^ a : Nat) : Int) := by simp
 rw [e, arS_andNot y _ (by omega) hlt, land_low hy]
 have : Nat.xor y 0 = y := Nat.xor_zero y
 rw [this, shl_val a (by omega) (Int.natCast_nonneg u) (by rw [e2]; omega), e2, arS_or y _ (by omega) (by omega)]
 have h3 : Nat.lor y (u * 2 ^ a) = y + u * 2 ^ a := by
  show y ||| (u * 2 ^ a) = _
  rw [Nat.or_comm, Nat.mul_comm, Nat.add_comm]
  exact (Nat.two_pow_add_eq_or_of_lt hy u).symm
 rw [h3]; simp
theorem pk_in {v : Int} (a n : Nat) {M : Int} (hM : M = (2 ^ n - 1) * 2 ^ a) (ha : a + n ≤ 64) (v0 : 0 ≤ v) (v1 : v < 2 ^ n) : arS .andNot .u64 (arS .shl .u64 v (a : Int)) M = 0 ∧ arS .shr .u64 (arS .shl .u64 v (a : Int)) (a : Int) = v := by
 obtain ⟨u, rfl⟩ := Int.eq_ofNat_of_zero_le v0
 have hq : 0 < 2 ^ a := Nat.two_pow_pos a
 have h64 : (2 : Nat) ^ 64 = 18446744073709551616 := by decide
 have hp : 0 < 2 ^ n := Nat.two_pow_pos n
 have c1 : ((2 ^ a : Nat) : Int) = 2 ^ a := by simp
 have c2 : ((2 ^ n : Nat) : Int) = 2 ^ n := by simp
 have hu : u < 2 ^ n := by omega
 have hmul : 2 ^ n * 2 ^ a ≤ 18446744073709551616 := by rw [← h64, ← Nat.pow_add]; exact Nat.pow_le_pow_right (by omega) (by omega)
 have hua : u * 2 ^ a + 2 ^ a ≤ 2 ^ n * 2 ^ a := by
  have : (u + 1) * 2 ^ a ≤ 2 ^ n * 2 ^ a := Nat.mul_le_mul_right _ hu
  rw [Nat.add_mul, Nat.one_mul] at this; exact this
 have hlt : (2 ^ n - 1) * 2 ^ a < 18446744073709551616 := by
  have h2 : (2 ^ n - 1) * 2 ^ a < 2 ^ n * 2 ^ a := Nat.mul_lt_mul_of_pos_right (by omega) hq
  omega
 have e : M = (((2 ^ n - 1) * 2 ^ a : Nat) : Int) := by
  rw [hM, Int.natCast_mul, Int.natCast_sub (by omega)]; simp
 have e2 : (u : Int) * 2 ^ a = ((u * 2 ^ a : Nat) : Int) := by simp
 rw [shl_val a (by omega) (Int.natCast_nonneg u) (by rw [e2]; omega)]
 refine ⟨?_, ?_⟩
 ·rw [e, e2, arS_andNot _ _ (by omega) hlt]
  have h3 : Nat.land (u * 2 ^ a) ((2 ^ n - 1) * 2 ^ a) = u * 2 ^ a := by
   show (u * 2 ^ a) &&& ((2 ^ n - 1) * 2 ^ a) = _
   rw [← Nat.shiftLeft_eq, ← Nat.shiftLeft_eq, ← Nat.shiftLeft_and_distrib, Nat.and_two_pow_sub_one_eq_mod, Nat.mod_eq_of_lt hu]
  rw [h3]
  have : Nat.xor (u * 2 ^ a) (u * 2 ^ a) = 0 := Nat.xor_self _
  rw [this]; rfl
 ·rw [shr_val a (by omega) (by rw [e2]; exact Int.natCast_nonneg _)]
  exact Int.mul_ediv_cancel _ (by have : (0 : Int) < 2 ^ a := Int.pow_pos (by omega); omega)
end Go.Ev
end
/-
 A thread's words: what they say, and what is written; contracts of the functions that read and write them.
-/
set_option linter.unusedSimpArgs false
set_option linter.unusedVariables false
noncomputable section
namespace Go.Ev
open Go
variable {E E' : Env} {P : Program}
structure TV where
 st : Int
 pr : Int
 sl : Int
 q : Bool
 pv : Int
 nx : Int
 bl : Int
 bd : Int
 g : Bool
 c : Bool
 bo : Int
 ha : Int
 fk : Int
 fa : Int
def b2 (x : Bool) : Int := match x with
 | true => 1
 | false => 0
theorem b2_lt (x : Bool) : 0 ≤ b2 x ∧ b2 x ≤ 1 := by cases x <;> decide
def TV.w0 (v : TV) : Int := v.st + v.pr * 8 + v.sl * 2048 + b2 v.q * 16384 + b2 v.g * 32768 + b2 v.c * 65536 + v.fk * 131072
def TV.w1 (v : TV) : Int := v.pv + v.nx * 65536 + v.bl * 4294967296 + v.bo * 281474976710656
def TV.w2 (v : TV) : Int := v.bd
def TV.w3 (v : TV) : Int := v.ha + v.fa * 4294967296
structure TV.Right (v : TV) : Prop where
 st : 0 ≤ v.st ∧ v.st ≤ 5
 pr : 0 ≤ v.pr ∧ v.pr < 256
 sl : 0 ≤ v.sl ∧ v.sl ≤ 5
 pv : 0 ≤ v.pv ∧ v.pv < 65536
 nx : 0 ≤ v.nx ∧ v.nx < 65536
 bl : 0 ≤ v.bl ∧ v.bl < 65536
 bd : 0 ≤ v.bd ∧ v.bd < 268435456
 bo : 0 ≤ v.bo ∧ v.bo < 65536
 ha : 0 ≤ v.ha ∧ v.ha < 4294967296
 fk : 0 ≤ v.fk ∧ v.fk < 4
 fa : 0 ≤ v.fa ∧ v.fa < 4294967296
def getW (a b c d : Int) : TV := ⟨a % 8, a / 8 % 256, a / 2048 % 8, decide (a / 16384 % 2 = 1), b % 65536, b / 65536 % 65536, b / 4294967296 % 65536, c % 268435456, decide (a / 32768 % 2 = 1), decide (a / 65536 % 2 = 1),
 b / 281474976710656 % 65536, d % 4294967296, a / 131072 % 4, d / 4294967296 % 4294967296⟩
def getT (f : Nat → Int) (t : Nat) : TV := getW (f (t + 16)) (f (t + 17)) (f (t + 18)) (f (t + 19))
def setT (f : Nat → Int) (t : Nat) (v : TV) : Nat → Int := upd (upd (upd (upd f (t + 16) v.w0) (t + 17) v.w1) (t + 18) v.w2) (t + 19) v.w3
structure RightAt (f : Nat → Int) (t : Nat) : Prop where
 a : 0 ≤ f (t + 16) ∧ f (t + 16) < 524288
 b : 0 ≤ f (t + 17) ∧ f (t + 17) < 18446744073709551616
 c : 0 ≤ f (t + 18) ∧ f (t + 18) < 268435456
 d : 0 ≤ f (t + 19) ∧ f (t + 19) < 18446744073709551616
 st : f (t + 16) % 8 ≤ 5
 sl : f (t + 16) / 2048 % 8 ≤ 5
theorem getT_right {f : Nat → Int} {t : Nat} (h : RightAt f t) : (getT f t).Right := by
 obtain ⟨a, b, c, d, st, sl⟩ := h
 refine ⟨⟨?_, st⟩, ?_, ⟨?_, sl⟩, ?_, ?_, ?_, ?_, ?_, ?_, ?_, ?_⟩ <;> simp only [getT, getW] <;> omega
theorem setT_other (f : Nat → Int) {t i : Nat} (v : TV) (h : i < t + 16 ∨ t + 20 ≤ i) : setT f t v i = f i := by
 unfold setT upd
 rw [if_neg (by omega), if_neg (by omega), if_neg (by omega), if_neg (by omega)]
theorem w_lt {v : TV} (h : v.Right) : (0 ≤ v.w0 ∧ v.w0 < 524288) ∧ (0 ≤ v.w1 ∧ v.w1 < 18446744073709551616) ∧ (0 ≤ v.w2 ∧ v.w2 < 268435456) ∧ (0 ≤ v.w3 ∧ v.w3 < 18446744073709551616) ∧ v.w0 % 8 ≤ 5 ∧ v.w0 / 2048 % 8 ≤ 5 := by
 obtain ⟨h1, h2, h3, h4, h5, h6, h7, h8, h9, h10, h11⟩ := h
 have e1 := b2_lt v.q
 have e2 := b2_lt v.g
 have e3 := b2_lt v.c
 simp only [TV.w0, TV.w1, TV.w2, TV.w3]
 refine ⟨?_, ?_, ?_, ?_, ?_, ?_⟩ <;> omega
def Apart (t u : Nat) : Prop := t + 64 ≤ u ∨ u + 64 ≤ t
def thV (v : TV) (r : Nat → Int) : Value := .agg #[.int .i64 v.st, .int .i64 v.pr, .int .i64 v.sl, .bool v.q, .int .i64 v.pv, .int .i64 v.nx, .int .i64 v.bl, .int .i64 v.bd, .bool v.g, .bool v.c, .int .i64 v.bo, .int .i64 v.ha, .int .i64 v.fk, .int .i64 v.fa,
 .int .u64 (r 0), .int .u64 (r 1), .int .u64 (r 2), .int .u64 (r 3), .int .u64 (r 4), .int .u64 (r 5), .int .u64 (r 6), .int .u64 (r 7), .int .u64 (r 8), .int .u64 (r 9), .int .u64 (r 10), .int .u64 (r 11), .int .u64 (r 12), .int .u64 (r 13), .int .u64 (r 14), .int .u64 (r 15)]
def regs (f : Nat → Int) (t : Nat) : Nat → Int := fun j => f (t + 32 + j)
theorem den_fn {e : SE} {w : Int} (a n : Nat) {A B M : Int} (hA : (2 : Int) ^ a = A) (hB : (2 : Int) ^ n = B) (hM : M = (B - 1) * A) (ha : a + n ≤ 64) (hn : n < 63) (he : e.den E = w) (h0 : 0 ≤ w) (h1 : w < 18446744073709551616) :
  SE.den E (.cv .i64 (.op .shr .u64 (.op .and .u64 e (.lit M)) (.lit (a : Int)))) = w / A % B := by
 have h := den_fld (E := E) a n (M := M) (by rw [hA, hB]; exact hM) ha he h0 h1
 rw [hA, hB] at h
 have hB' : B ≤ 4611686018427387904 := by
  have : (2 : Int) ^ n ≤ 2 ^ 62 := by
   have h2 : (2 : Nat) ^ n ≤ 2 ^ 62 := Nat.pow_le_pow_right (by omega) (by omega)
   have e1 : ((2 ^ n : Nat) : Int) = 2 ^ n := by simp
   have e2 : ((2 ^ 62 : Nat) : Int) = 2 ^ 62 := by simp
   omega
  rw [hB] at this
  simpa using this
 have hp : 0 < B := by rw [← hB]; exact Int.pow_pos (by omega)
 exact den_cvi h (Int.emod_nonneg _ (by omega)) (by have := Int.emod_lt_of_pos (w / A) hp; omega)
end Go.Ev
end
/-
 Contracts of the functions that read a thread and write one.
-/
set_option linter.unusedSimpArgs false
set_option linter.unusedVariables false
set_option maxRecDepth 100000
noncomputable section
namespace Go.Ev
open Go
variable {E E' : Env} {P : Program}
def thS (t : Nat) : Sm := ⟨[(.one (.i .i64 (.ofNat t)))], [(t + 16, 100), (t + 17, 101), (t + 18, 102), (t + 19, 103), (t + 32, 104), (t + 33, 105), (t + 34, 106), (t + 35, 107), (t + 36, 108), (t + 37, 109), (t + 38, 110), (t + 39, 111), (t + 40, 112), (t + 41, 113), (t + 42, 114), (t + 43, 115), (t + 44, 116), (t + 45, 117), (t + 46, 118), (t + 47, 119)], [((.cmp .neq (.op .shr .u64 (.v 100) (.lit 19)) (.lit 0)), false), ((.cmp .neq (.op .shr .u64 (.v 101) (.lit 64)) (.lit 0)), false), ((.cmp .neq (.op .shr .u64 (.v 102) (.lit 28)) (.lit 0)), false), ((.cmp .neq (.op .shr .u64 (.v 103) (.lit 64)) (.lit 0)), false), ((.cmp .gtr (.cv .i64 (.op .shr .u64 (.op .and .u64 (.v 100) (.lit 7)) (.lit 0))) (.lit 5)), false), ((.cmp .gtr (.cv .i64 (.op .shr .u64 (.op .and .u64 (.v 100) (.lit 14336)) (.lit 11))) (.lit 5)), false)], (.tup [(.agg [(.s .i64 (.cv .i64 (.op .shr .u64 (.op .and .u64 (.v 100) (.lit 7)) (.lit 0)))), (.s .i64 (.cv .i64 (.op .shr .u64 (.op .and .u64 (.v 100) (.lit 2040)) (.lit 3)))), (.s .i64 (.cv .i64 (.op .shr .u64 (.op .and .u64 (.v 100) (.lit 14336)) (.lit 11)))), (.c (.cmp .eql (.cv .i64 (.op .shr .u64 (.op .and .u64 (.v 100) (.lit 16384)) (.lit 14))) (.lit 1))), (.s .i64 (.cv .i64 (.op .shr .u64 (.op .and .u64 (.v 101) (.lit 65535)) (.lit 0)))), (.s .i64 (.cv .i64 (.op .shr .u64 (.op .and .u64 (.v 101) (.lit 4294901760)) (.lit 16)))), (.s .i64 (.cv .i64 (.op .shr .u64 (.op .and .u64 (.v 101) (.lit 281470681743360)) (.lit 32)))), (.s .i64 (.cv .i64 (.op .shr .u64 (.op .and .u64 (.v 102) (.lit 268435455)) (.lit 0)))), (.c (.cmp .eql (.cv .i64 (.op .shr .u64 (.op .and .u64 (.v 100) (.lit 32768)) (.lit 15))) (.lit 1))), (.c (.cmp .eql (.cv .i64 (.op .shr .u64 (.op .and .u64 (.v 100) (.lit 65536)) (.lit 16))) (.lit 1))), (.s .i64 (.cv .i64 (.op .shr .u64 (.op .and .u64 (.v 101) (.lit 18446462598732840960)) (.lit 48)))), (.s .i64 (.cv .i64 (.op .shr .u64 (.op .and .u64 (.v 103) (.lit 4294967295)) (.lit 0)))), (.s .i64 (.cv .i64 (.op .shr .u64 (.op .and .u64 (.v 100) (.lit 393216)) (.lit 17)))), (.s .i64 (.cv .i64 (.op .shr .u64 (.op .and .u64 (.v 103) (.lit 18446744069414584320)) (.lit 32)))), (.s .u64 (.v 104)), (.s .u64 (.v 105)), (.s .u64 (.v 106)), (.s .u64 (.v 107)), (.s .u64 (.v 108)), (.s .u64 (.v 109)), (.s .u64 (.v 110)), (.s .u64 (.v 111)), (.s .u64 (.v 112)), (.s .u64 (.v 113)), (.s .u64 (.v 114)), (.s .u64 (.v 115)), (.s .u64 (.v 116)), (.s .u64 (.v 117)), (.s .u64 (.v 118)), (.s .u64 (.v 119))]), (.one (.i .i64 0))]), [], 20⟩
def stS (q g c : Bool) (t : Nat) : Sm := ⟨[(.one (.i .i64 (.ofNat t))), (.agg [(.w .i64 10), (.w .i64 11), (.w .i64 12), (.b q), (.w .i64 13), (.w .i64 14), (.w .i64 15), (.w .i64 16), (.b g), (.b c), (.w .i64 17), (.w .i64 18), (.w .i64 19), (.w .i64 20), (.w .u64 21), (.w .u64 22), (.w .u64 23), (.w .u64 24), (.w .u64 25), (.w .u64 26), (.w .u64 27), (.w .u64 28), (.w .u64 29), (.w .u64 30), (.w .u64 31), (.w .u64 32), (.w .u64 33), (.w .u64 34), (.w .u64 35), (.w .u64 36)])], [], [((.cmp .lss (.v 10) (.lit 0)), false), ((.cmp .lss (.v 11) (.lit 0)), false), ((.cmp .lss (.v 12) (.lit 0)), false), ((.cmp .lss (.v 19) (.lit 0)), false), ((.cmp .neq (.op .shr .u64 (.op .shl .u64 (.cv .u64 (.v 10)) (.lit 0)) (.lit 0)) (.cv .u64 (.v 10))), false), ((.cmp .neq (.op .andNot .u64 (.op .shl .u64 (.cv .u64 (.v 10)) (.lit 0)) (.lit 7)) (.lit 0)), false), ((.cmp .neq (.op .shr .u64 (.op .shl .u64 (.cv .u64 (.v 11)) (.lit 3)) (.lit 3)) (.cv .u64 (.v 11))), false), ((.cmp .neq (.op .andNot .u64 (.op .shl .u64 (.cv .u64 (.v 11)) (.lit 3)) (.lit 2040)) (.lit 0)), false), ((.cmp .neq (.op .shr .u64 (.op .shl .u64 (.cv .u64 (.v 12)) (.lit 11)) (.lit 11)) (.cv .u64 (.v 12))), false), ((.cmp .neq (.op .andNot .u64 (.op .shl .u64 (.cv .u64 (.v 12)) (.lit 11)) (.lit 14336)) (.lit 0)), false), ((.cmp .neq (.op .shr .u64 (.op .shl .u64 (.cv .u64 (.v 19)) (.lit 17)) (.lit 17)) (.cv .u64 (.v 19))), false), ((.cmp .neq (.op .andNot .u64 (.op .shl .u64 (.cv .u64 (.v 19)) (.lit 17)) (.lit 393216)) (.lit 0)), false), ((.cmp .lss (.v 13) (.lit 0)), false), ((.cmp .lss (.v 14) (.lit 0)), false), ((.cmp .lss (.v 15) (.lit 0)), false), ((.cmp .lss (.v 17) (.lit 0)), false), ((.cmp .neq (.op .shr .u64 (.op .shl .u64 (.cv .u64 (.v 13)) (.lit 0)) (.lit 0)) (.cv .u64 (.v 13))), false), ((.cmp .neq (.op .andNot .u64 (.op .shl .u64 (.cv .u64 (.v 13)) (.lit 0)) (.lit 65535)) (.lit 0)), false), ((.cmp .neq (.op .shr .u64 (.op .shl .u64 (.cv .u64 (.v 14)) (.lit 16)) (.lit 16)) (.cv .u64 (.v 14))), false), ((.cmp .neq (.op .andNot .u64 (.op .shl .u64 (.cv .u64 (.v 14)) (.lit 16)) (.lit 4294901760)) (.lit 0)), false), ((.cmp .neq (.op .shr .u64 (.op .shl .u64 (.cv .u64 (.v 15)) (.lit 32)) (.lit 32)) (.cv .u64 (.v 15))), false), ((.cmp .neq (.op .andNot .u64 (.op .shl .u64 (.cv .u64 (.v 15)) (.lit 32)) (.lit 281470681743360)) (.lit 0)), false), ((.cmp .neq (.op .shr .u64 (.op .shl .u64 (.cv .u64 (.v 17)) (.lit 48)) (.lit 48)) (.cv .u64 (.v 17))), false), ((.cmp .neq (.op .andNot .u64 (.op .shl .u64 (.cv .u64 (.v 17)) (.lit 48)) (.lit 18446462598732840960)) (.lit 0)), false), ((.cmp .lss (.v 16) (.lit 0)), false), ((.cmp .neq (.op .shr .u64 (.op .shl .u64 (.cv .u64 (.v 16)) (.lit 0)) (.lit 0)) (.cv .u64 (.v 16))), false), ((.cmp .neq (.op .andNot .u64 (.op .shl .u64 (.cv .u64 (.v 16)) (.lit 0)) (.lit 268435455)) (.lit 0)), false), ((.cmp .lss (.v 18) (.lit 0)), false), ((.cmp .lss (.v 20) (.lit 0)), false), ((.cmp .neq (.op .shr .u64 (.op .shl .u64 (.cv .u64 (.v 18)) (.lit 0)) (.lit 0)) (.cv .u64 (.v 18))), false), ((.cmp .neq (.op .andNot .u64 (.op .shl .u64 (.cv .u64 (.v 18)) (.lit 0)) (.lit 4294967295)) (.lit 0)), false), ((.cmp .neq (.op .shr .u64 (.op .shl .u64 (.cv .u64 (.v 20)) (.lit 32)) (.lit 32)) (.cv .u64 (.v 20))), false), ((.cmp .neq (.op .andNot .u64 (.op .shl .u64 (.cv .u64 (.v 20)) (.lit 32)) (.lit 18446744069414584320)) (.lit 0)), false), ((.cmp .leq (.v 10) (.lit 5)), true), ((.cmp .leq (.v 12) (.lit 5)), true)], (.one (.one (.i .i64 0))), [(t + 16, (.s .u64 (.op .or .u64 (.op .andNot .u64 (.op .or .u64 (.op .andNot .u64 (.op .or .u64 (.op .andNot .u64 (.op .or .u64 (.op .andNot .u64 (.op .or .u64 (.op .andNot .u64 (.op .or .u64 (.op .andNot .u64 (.op .or .u64 (.lit 0) (.op .shl .u64 (.cv .u64 (.v 10)) (.lit 0))) (.lit 2040)) (.op .shl .u64 (.cv .u64 (.v 11)) (.lit 3))) (.lit 14336)) (.op .shl .u64 (.cv .u64 (.v 12)) (.lit 11))) (.lit 16384)) (.lit (b2 q * 16384))) (.lit 32768)) (.lit (b2 g * 32768))) (.lit 65536)) (.lit (b2 c * 65536))) (.lit 393216)) (.op .shl .u64 (.cv .u64 (.v 19)) (.lit 17))))), (t + 17, (.s .u64 (.op .or .u64 (.op .andNot .u64 (.op .or .u64 (.op .andNot .u64 (.op .or .u64 (.op .andNot .u64 (.op .or .u64 (.lit 0) (.op .shl .u64 (.cv .u64 (.v 13)) (.lit 0))) (.lit 4294901760)) (.op .shl .u64 (.cv .u64 (.v 14)) (.lit 16))) (.lit 281470681743360)) (.op .shl .u64 (.cv .u64 (.v 15)) (.lit 32))) (.lit 18446462598732840960)) (.op .shl .u64 (.cv .u64 (.v 17)) (.lit 48))))), (t + 18, (.s .u64 (.op .or .u64 (.lit 0) (.op .shl .u64 (.cv .u64 (.v 16)) (.lit 0))))), (t + 19, (.s .u64 (.op .or .u64 (.op .andNot .u64 (.op .or .u64 (.lit 0) (.op .shl .u64 (.cv .u64 (.v 18)) (.lit 0))) (.lit 18446744069414584320)) (.op .shl .u64 (.cv .u64 (.v 20)) (.lit 32))))), (t + 32, (.s .u64 (.v 21))), (t + 33, (.s .u64 (.v 22))), (t + 34, (.s .u64 (.v 23))), (t + 35, (.s .u64 (.v 24))), (t + 36, (.s .u64 (.v 25))), (t + 37, (.s .u64 (.v 26))), (t + 38, (.s .u64 (.v 27))), (t + 39, (.s .u64 (.v 28))), (t + 40, (.s .u64 (.v 29))), (t + 41, (.s .u64 (.v 30))), (t + 42, (.s .u64 (.v 31))), (t + 43, (.s .u64 (.v 32))), (t + 44, (.s .u64 (.v 33))), (t + 45, (.s .u64 (.v 34))), (t + 46, (.s .u64 (.v 35))), (t + 47, (.s .u64 (.v 36)))], 20⟩
theorem cA {i : Nat} {x : Int} (hx : E.i i = x) (h : 0 ≤ x) : (SB.cmp .lss (.v i) (.lit 0)).den E = false := by
 show iLt (E.i i) 0 = false
 rw [iLt_eq, hx]; exact decide_eq_false (by omega)
theorem cD {i : Nat} {x : Int} (hx : E.i i = x) (h : x ≤ 5) : (SB.cmp .leq (.v i) (.lit 5)).den E = true := by
 show iLe (E.i i) 5 = true
 rw [iLe_eq, hx]; exact decide_eq_true h
theorem two_le {n : Nat} (h : n ≤ 32) : (2 : Int) ^ n ≤ 4294967296 := by
 have h2 : (2 : Nat) ^ n ≤ 2 ^ 32 := Nat.pow_le_pow_right (by omega) h
 have e1 : ((2 ^ n : Nat) : Int) = 2 ^ n := by simp
 have e2 : ((2 ^ 32 : Nat) : Int) = 4294967296 := by decide
 omega
theorem cvu {i : Nat} {x : Int} (n : Nat) (hn : n ≤ 32) (hx : E.i i = x) (h0 : 0 ≤ x) (h1 : x < 2 ^ n) : SE.den E (.cv .u64 (.v i)) = x := by
 have := two_le hn
 exact den_cvu hx h0 (by omega)
theorem cB {i : Nat} {x : Int} (a n : Nat) (ha : a + n ≤ 64 ∧ n ≤ 32) (hx : E.i i = x) (h0 : 0 ≤ x) (h1 : x < 2 ^ n) : (SB.cmp .neq (.op .shr .u64 (.op .shl .u64 (.cv .u64 (.v i)) (.lit (a : Int))) (.lit (a : Int))) (.cv .u64 (.v i))).den E = false :=
 sb_neq (x := x) (by
  show arS .shr .u64 (arS .shl .u64 (SE.den E (.cv .u64 (.v i))) (a : Int)) (a : Int) = x
  rw [cvu n ha.2 hx h0 h1]
  exact (pk_in a n rfl ha.1 h0 h1).2) (cvu n ha.2 hx h0 h1)
theorem cC {i : Nat} {x M : Int} (a n : Nat) (hM : M = (2 ^ n - 1) * 2 ^ a) (ha : a + n ≤ 64 ∧ n ≤ 32) (hx : E.i i = x) (h0 : 0 ≤ x) (h1 : x < 2 ^ n) : (SB.cmp .neq (.op .andNot .u64 (.op .shl .u64 (.cv .u64 (.v i)) (.lit (a : Int))) (.lit M)) (.lit 0)).den E = false :=
 sb_neq (x := 0) (by
  show arS .andNot .u64 (arS .shl .u64 (SE.den E (.cv .u64 (.v i))) (a : Int)) M = 0
  rw [cvu n ha.2 hx h0 h1]
  exact (pk_in a n hM ha.1 h0 h1).1) rfl
theorem w0D {i : Nat} {x : Int} (n : Nat) (hn : n ≤ 32) (hx : E.i i = x) (h0 : 0 ≤ x) (h1 : x < 2 ^ n) : SE.den E (.op .or .u64 (.lit 0) (.op .shl .u64 (.cv .u64 (.v i)) (.lit 0))) = x := by
 have h2 := two_le hn
 obtain ⟨u, rfl⟩ := Int.eq_ofNat_of_zero_le h0
 show arS .or .u64 0 (arS .shl .u64 (SE.den E (.cv .u64 (.v i))) ((0 : Nat) : Int)) = _
 rw [cvu n hn hx h0 h1, shl_val 0 (by omega) h0 (by simp; omega)]
 have e1 : (u : Int) * 2 ^ 0 = (u : Int) := by simp
 rw [e1]
 have := arS_or 0 u (by omega) (by omega)
 rw [show ((0 : Nat) : Int) = 0 from rfl] at this
 rw [this]
 have : Nat.lor 0 u = u := Nat.zero_or u
 rw [this]
theorem wD {X : SE} {i : Nat} {y x A M : Int} (a n : Nat) (hA : (2 : Int) ^ a = A) (hM : M = (2 ^ n - 1) * 2 ^ a) (ha : a + n ≤ 64 ∧ n ≤ 32) (hX : X.den E = y) (y0 : 0 ≤ y) (y1 : y < A) (hx : E.i i = x) (h0 : 0 ≤ x) (h1 : x < 2 ^ n) :
  SE.den E (.op .or .u64 (.op .andNot .u64 X (.lit M)) (.op .shl .u64 (.cv .u64 (.v i)) (.lit (a : Int)))) = y + x * A := by
 show arS .or .u64 (arS .andNot .u64 (X.den E) M) (arS .shl .u64 (SE.den E (.cv .u64 (.v i))) (a : Int)) = _
 rw [cvu n ha.2 hx h0 h1, hX, pk_val a n hM ha.1 y0 (by rw [hA]; exact y1) h0 h1, hA]
theorem wB {X : SE} {y A M : Int} (b : Bool) (a : Nat) (hA : (2 : Int) ^ a = A) (hM : M = A) (ha : a + 1 ≤ 32) (hX : X.den E = y) (y0 : 0 ≤ y) (y1 : y < A) :
  SE.den E (.op .or .u64 (.op .andNot .u64 X (.lit M)) (.lit (b2 b * M))) = y + b2 b * A := by
 have hb := b2_lt b
 show arS .or .u64 (arS .andNot .u64 (X.den E) M) (b2 b * M) = _
 have h2 := two_le (n := a) (by omega)
 have e : b2 b * M = arS .shl .u64 (b2 b) (a : Int) := by
  rw [shl_val a (by omega) hb.1 (by rw [hA]; cases b <;> simp only [b2] <;> omega), hA, hM]
 rw [e, hX, pk_val a 1 (by rw [hM, hA]; simp) (by omega) y0 (by rw [hA]; exact y1) hb.1 (by cases b <;> decide), hA]
def envS (N : Nat) (st : Int) (v : TV) (f : Nat → Int) (t : Nat) : Env := ⟨fun i => if i = 5 then st else if i = 10 then v.st else if i = 11 then v.pr else if i = 12 then v.sl else if i = 13 then v.pv else if i = 14 then v.nx else if i = 15 then v.bl else if i = 16 then v.bd else if i = 17 then v.bo else if i = 18 then v.ha else if i = 19 then v.fk else if i = 20 then v.fa else regs f t (i - 21), fun _ => false, fun _ => rowF N f⟩
theorem wr_fin {f : Nat → Int} {t : Nat} {a b c d : Int} {v : TV} (ha : a = v.w0) (hb : b = v.w1) (hc : c = v.w2) (hd : d = v.w3) (r : Nat → Int) (hr : ∀ j, r j = f (t + 32 + j)) : upd (upd (upd (upd (upd (upd (upd (upd (upd (upd (upd (upd (upd (upd (upd (upd (upd (upd (upd (upd f (t + 16) a) (t + 17) b) (t + 18) c) (t + 19) d) (t + 32) (r 0)) (t + 33) (r 1)) (t + 34) (r 2)) (t + 35) (r 3)) (t + 36) (r 4)) (t + 37) (r 5)) (t + 38) (r 6)) (t + 39) (r 7)) (t + 40) (r 8)) (t + 41) (r 9)) (t + 42) (r 10)) (t + 43) (r 11)) (t + 44) (r 12)) (t + 45) (r 13)) (t + 46) (r 14)) (t + 47) (r 15) = setT f t v := by
 subst ha hb hc hd
 show upd (upd (upd (upd (upd (upd (upd (upd (upd (upd (upd (upd (upd (upd (upd (upd (setT f t v) (t + 32) (r 0)) (t + 33) (r 1)) (t + 34) (r 2)) (t + 35) (r 3)) (t + 36) (r 4)) (t + 37) (r 5)) (t + 38) (r 6)) (t + 39) (r 7)) (t + 40) (r 8)) (t + 41) (r 9)) (t + 42) (r 10)) (t + 43) (r 11)) (t + 44) (r 12)) (t + 45) (r 13)) (t + 46) (r 14)) (t + 47) (r 15) = setT f t v
 have hg : ∀ j, r j = setT f t v (t + 32 + j) := fun j => by rw [hr, setT_other f v (by omega)]
 generalize setT f t v = g at *
 rw [upd_idx g (t + 32) (hg 0), upd_idx g (t + 33) (hg 1), upd_idx g (t + 34) (hg 2), upd_idx g (t + 35) (hg 3), upd_idx g (t + 36) (hg 4), upd_idx g (t + 37) (hg 5), upd_idx g (t + 38) (hg 6), upd_idx g (t + 39) (hg 7), upd_idx g (t + 40) (hg 8), upd_idx g (t + 41) (hg 9), upd_idx g (t + 42) (hg 10), upd_idx g (t + 43) (hg 11), upd_idx g (t + 44) (hg 12), upd_idx g (t + 45) (hg 13), upd_idx g (t + 46) (hg 14), upd_idx g (t + 47) (hg 15)]
def envT (N : Nat) (st : Int) (f : Nat → Int) (t : Nat) : Env := ⟨fun i => if i = 5 then st else if i < 104 then f (t + 16 + (i - 100)) else f (t + 32 + (i - 104)), fun _ => false, fun _ => rowF N f⟩
theorem bD {e : SE} {w A : Int} (a : Nat) (hA : (2 : Int) ^ a = A) (ha : a + 1 ≤ 32) (he : e.den E = w) (h0 : 0 ≤ w) (h1 : w < 18446744073709551616) : (SB.cmp .eql (.cv .i64 (.op .shr .u64 (.op .and .u64 e (.lit A)) (.lit (a : Int)))) (.lit 1)).den E = decide (w / A % 2 = 1) := by
 show iEq (SE.den E (.cv .i64 (.op .shr .u64 (.op .and .u64 e (.lit A)) (.lit (a : Int))))) 1 = _
 rw [den_fn (B := 2) a 1 hA rfl (by omega) (by omega) (by omega) he h0 h1, iEq_eq]
theorem thread_c {c : MC} {F : Nat} {call0 : CallT} (hc : ∀ E, CallOk E P call0) {t : Nat} (hwf : (thS t).wf c = true) (hr : (thS t).run c F call0 = 0) {f : Nat → Int} (h : RightAt f t) :
  MemC P c F [.int .i64 t] f (.tuple #[thV (getT f t) (regs f t), .int .i64 0]) f 20 := by
 obtain ⟨ha, hb, hd, he, hs, hl⟩ := h
 refine memC_of_sm (s := thS t) hwf rfl hr fun st => ⟨envT c.N st f t, rfl, hc _, ?_, rowF_is _ _, ?_, rfl, fun ρ => rfl, fun ρ => ?_⟩
 ·refine fa_all ?_
  simp only [thS, List.mem_cons, List.not_mem_nil, or_false, forall_eq_or_imp, forall_eq]
  have n1 : (5 : Int) < 6 := by decide
  refine ⟨sb_neq (x := 0) ?_ rfl, sb_neq (x := 0) ?_ rfl, sb_neq (x := 0) ?_ rfl, sb_neq (x := 0) ?_ rfl, ?_, ?_⟩
  ·rw [show (19 : Int) = ((19 : Nat) : Int) from rfl, den_shr 19 (by omega) (x := f (t + 16)) rfl ha.1]
   show f (t + 16) / 524288 = 0
   omega
  ·rw [show (64 : Int) = ((64 : Nat) : Int) from rfl, den_shr 64 (by omega) (x := f (t + 17)) rfl hb.1]
   show f (t + 17) / 18446744073709551616 = 0
   omega
  ·rw [show (28 : Int) = ((28 : Nat) : Int) from rfl, den_shr 28 (by omega) (x := f (t + 18)) rfl hd.1]
   show f (t + 18) / 268435456 = 0
   omega
  ·rw [show (64 : Int) = ((64 : Nat) : Int) from rfl, den_shr 64 (by omega) (x := f (t + 19)) rfl he.1]
   show f (t + 19) / 18446744073709551616 = 0
   omega
  ·show iLt 5 (SE.den _ (.cv .i64 (.op .shr .u64 (.op .and .u64 (.v 100) (.lit 7)) (.lit ((0 : Nat) : Int))))) = false
   rw [den_fn (e := .v 100) (M := 7) (A := 1) (B := 8) 0 3 rfl rfl rfl (by omega) (by omega) (w := f (t + 16)) rfl ha.1 (by omega), iLt_eq]
   exact decide_eq_false (by omega)
  ·show iLt 5 (SE.den _ (.cv .i64 (.op .shr .u64 (.op .and .u64 (.v 100) (.lit 14336)) (.lit ((11 : Nat) : Int))))) = false
   rw [den_fn (e := .v 100) (M := 14336) (A := 2048) (B := 8) 11 3 rfl rfl rfl (by omega) (by omega) (w := f (t + 16)) rfl ha.1 (by omega), iLt_eq]
   exact decide_eq_false (by omega)
 ·simp only [thS, List.mem_cons, List.not_mem_nil, or_false, forall_eq_or_imp, forall_eq]
  refine ⟨rfl, rfl, rfl, rfl, rfl, rfl, rfl, rfl, rfl, rfl, rfl, rfl, rfl, rfl, rfl, rfl, rfl, rfl, rfl, rfl⟩
 ·have ha2 : f (t + 16) < 18446744073709551616 := by omega
  have hd2 : f (t + 18) < 18446744073709551616 := by omega
  have est : SE.den (envT c.N st f t) (.cv .i64 (.op .shr .u64 (.op .and .u64 (.v 100) (.lit 7)) (.lit 0))) = (getT f t).st := by
   rw [show (0 : Int) = ((0 : Nat) : Int) from rfl, den_fn (e := .v 100) (M := 7) (A := 1) (B := 8) 0 3 rfl rfl rfl (by omega) (by omega) (w := f (t + 16)) rfl ha.1 ha2]
   show f (t + 16) / 1 % 8 = f (t + 16) % 8
   rw [Int.ediv_one]
  have epr : SE.den (envT c.N st f t) (.cv .i64 (.op .shr .u64 (.op .and .u64 (.v 100) (.lit 2040)) (.lit 3))) = (getT f t).pr := by
   rw [show (3 : Int) = ((3 : Nat) : Int) from rfl, den_fn (e := .v 100) (M := 2040) (A := 8) (B := 256) 3 8 rfl rfl rfl (by omega) (by omega) (w := f (t + 16)) rfl ha.1 ha2]
   rfl
  have esl : SE.den (envT c.N st f t) (.cv .i64 (.op .shr .u64 (.op .and .u64 (.v 100) (.lit 14336)) (.lit 11))) = (getT f t).sl := by
   rw [show (11 : Int) = ((11 : Nat) : Int) from rfl, den_fn (e := .v 100) (M := 14336) (A := 2048) (B := 8) 11 3 rfl rfl rfl (by omega) (by omega) (w := f (t + 16)) rfl ha.1 ha2]
   rfl
  have epv : SE.den (envT c.N st f t) (.cv .i64 (.op .shr .u64 (.op .and .u64 (.v 101) (.lit 65535)) (.lit 0))) = (getT f t).pv := by
   rw [show (0 : Int) = ((0 : Nat) : Int) from rfl, den_fn (e := .v 101) (M := 65535) (A := 1) (B := 65536) 0 16 rfl rfl rfl (by omega) (by omega) (w := f (t + 17)) rfl hb.1 hb.2]
   show f (t + 17) / 1 % 65536 = f (t + 17) % 65536
   rw [Int.ediv_one]
  have enx : SE.den (envT c.N st f t) (.cv .i64 (.op .shr .u64 (.op .and .u64 (.v 101) (.lit 4294901760)) (.lit 16))) = (getT f t).nx := by
   rw [show (16 : Int) = ((16 : Nat) : Int) from rfl, den_fn (e := .v 101) (M := 4294901760) (A := 65536) (B := 65536) 16 16 rfl rfl rfl (by omega) (by omega) (w := f (t + 17)) rfl hb.1 hb.2]
   rfl
  have ebl : SE.den (envT c.N st f t) (.cv .i64 (.op .shr .u64 (.op .and .u64 (.v 101) (.lit 281470681743360)) (.lit 32))) = (getT f t).bl := by
   rw [show (32 : Int) = ((32 : Nat) : Int) from rfl, den_fn (e := .v 101) (M := 281470681743360) (A := 4294967296) (B := 65536) 32 16 rfl rfl rfl (by omega) (by omega) (w := f (t + 17)) rfl hb.1 hb.2]
   rfl
  have ebd : SE.den (envT c.N st f t) (.cv .i64 (.op .shr .u64 (.op .and .u64 (.v 102) (.lit 268435455)) (.lit 0))) = (getT f t).bd := by
   rw [show (0 : Int) = ((0 : Nat) : Int) from rfl, den_fn (e := .v 102) (M := 268435455) (A := 1) (B := 268435456) 0 28 rfl rfl rfl (by omega) (by omega) (w := f (t + 18)) rfl hd.1 hd2]
   show f (t + 18) / 1 % 268435456 = f (t + 18) % 268435456
   rw [Int.ediv_one]
  have ebo : SE.den (envT c.N st f t) (.cv .i64 (.op .shr .u64 (.op .and .u64 (.v 101) (.lit 18446462598732840960)) (.lit 48))) = (getT f t).bo := by
   rw [show (48 : Int) = ((48 : Nat) : Int) from rfl, den_fn (e := .v 101) (M := 18446462598732840960) (A := 281474976710656) (B := 65536) 48 16 rfl rfl rfl (by omega) (by omega) (w := f (t + 17)) rfl hb.1 hb.2]
   rfl
  have eha : SE.den (envT c.N st f t) (.cv .i64 (.op .shr .u64 (.op .and .u64 (.v 103) (.lit 4294967295)) (.lit 0))) = (getT f t).ha := by
   rw [show (0 : Int) = ((0 : Nat) : Int) from rfl, den_fn (e := .v 103) (M := 4294967295) (A := 1) (B := 4294967296) 0 32 rfl rfl rfl (by omega) (by omega) (w := f (t + 19)) rfl he.1 he.2]
   show f (t + 19) / 1 % 4294967296 = f (t + 19) % 4294967296
   rw [Int.ediv_one]
  have efk : SE.den (envT c.N st f t) (.cv .i64 (.op .shr .u64 (.op .and .u64 (.v 100) (.lit 393216)) (.lit 17))) = (getT f t).fk := by
   rw [show (17 : Int) = ((17 : Nat) : Int) from rfl, den_fn (e := .v 100) (M := 393216) (A := 131072) (B := 4) 17 2 rfl rfl rfl (by omega) (by omega) (w := f (t + 16)) rfl ha.1 ha2]
   rfl
  have efa : SE.den (envT c.N st f t) (.cv .i64 (.op .shr .u64 (.op .and .u64 (.v 103) (.lit 18446744069414584320)) (.lit 32))) = (getT f t).fa := by
   rw [show (32 : Int) = ((32 : Nat) : Int) from rfl, den_fn (e := .v 103) (M := 18446744069414584320) (A := 4294967296) (B := 4294967296) 32 32 rfl rfl rfl (by omega) (by omega) (w := f (t + 19)) rfl he.1 he.2]
   rfl
  have eq : SB.den (envT c.N st f t) (.cmp .eql (.cv .i64 (.op .shr .u64 (.op .and .u64 (.v 100) (.lit 16384)) (.lit 14))) (.lit 1)) = (getT f t).q := by
   rw [show (14 : Int) = ((14 : Nat) : Int) from rfl]
   exact bD 14 rfl (by omega) (w := f (t + 16)) rfl ha.1 ha2
  have eg : SB.den (envT c.N st f t) (.cmp .eql (.cv .i64 (.op .shr .u64 (.op .and .u64 (.v 100) (.lit 32768)) (.lit 15))) (.lit 1)) = (getT f t).g := by
   rw [show (15 : Int) = ((15 : Nat) : Int) from rfl]
   exact bD 15 rfl (by omega) (w := f (t + 16)) rfl ha.1 ha2
  have ec : SB.den (envT c.N st f t) (.cmp .eql (.cv .i64 (.op .shr .u64 (.op .and .u64 (.v 100) (.lit 65536)) (.lit 16))) (.lit 1)) = (getT f t).c := by
   rw [show (16 : Int) = ((16 : Nat) : Int) from rfl]
   exact bD 16 rfl (by omega) (w := f (t + 16)) rfl ha.1 ha2
  simp only [thS, RR.v, RA.v, mapV, RS.v, V.γ, γL, est, epr, esl, epv, enx, ebl, ebd, ebo, eha, efk, efa, eq, eg, ec]
  rfl
theorem setThread_c {c : MC} {F : Nat} {call0 : CallT} (hc : ∀ E, CallOk E P call0) {t : Nat} {v : TV} (hwf : (stS v.q v.g v.c t).wf c = true) (hr : (stS v.q v.g v.c t).run c F call0 = 0) {f : Nat → Int} (h : v.Right) :
  MemC P c F [.int .i64 t, thV v (regs f t)] f (.int .i64 0) (setT f t v) 20 := by
 refine memC_of_sm (s := stS v.q v.g v.c t) hwf rfl hr fun st => ?_
 refine ⟨envS c.N st v f t, rfl, hc _, ?_, rowF_is _ _, fun p hp => (by cases hp), ?_, fun ρ => rfl, fun ρ => rfl⟩
 ·refine fa_all ?_
  simp only [stS, List.mem_cons, List.not_mem_nil, or_false, forall_eq_or_imp, forall_eq]
  exact ⟨cA rfl h.st.1,
   cA rfl h.pr.1,
   cA rfl h.sl.1,
   cA rfl h.fk.1,
   cB (x := v.st) 0 3 (by decide) rfl h.st.1 (by have := h.st.2; omega),
   cC (x := v.st) 0 3 rfl (by decide) rfl h.st.1 (by have := h.st.2; omega),
   cB (x := v.pr) 3 8 (by decide) rfl h.pr.1 (by have := h.pr.2; omega),
   cC (x := v.pr) 3 8 rfl (by decide) rfl h.pr.1 (by have := h.pr.2; omega),
   cB (x := v.sl) 11 3 (by decide) rfl h.sl.1 (by have := h.sl.2; omega),
   cC (x := v.sl) 11 3 rfl (by decide) rfl h.sl.1 (by have := h.sl.2; omega),
   cB (x := v.fk) 17 2 (by decide) rfl h.fk.1 (by have := h.fk.2; omega),
   cC (x := v.fk) 17 2 rfl (by decide) rfl h.fk.1 (by have := h.fk.2; omega),
   cA rfl h.pv.1,
   cA rfl h.nx.1,
   cA rfl h.bl.1,
   cA rfl h.bo.1,
   cB (x := v.pv) 0 16 (by decide) rfl h.pv.1 (by have := h.pv.2; omega),
   cC (x := v.pv) 0 16 rfl (by decide) rfl h.pv.1 (by have := h.pv.2; omega),
   cB (x := v.nx) 16 16 (by decide) rfl h.nx.1 (by have := h.nx.2; omega),
   cC (x := v.nx) 16 16 rfl (by decide) rfl h.nx.1 (by have := h.nx.2; omega),
   cB (x := v.bl) 32 16 (by decide) rfl h.bl.1 (by have := h.bl.2; omega),
   cC (x := v.bl) 32 16 rfl (by decide) rfl h.bl.1 (by have := h.bl.2; omega),
   cB (x := v.bo) 48 16 (by decide) rfl h.bo.1 (by have := h.bo.2; omega),
   cC (x := v.bo) 48 16 rfl (by decide) rfl h.bo.1 (by have := h.bo.2; omega),
   cA rfl h.bd.1,
   cB (x := v.bd) 0 28 (by decide) rfl h.bd.1 (by have := h.bd.2; omega),
   cC (x := v.bd) 0 28 rfl (by decide) rfl h.bd.1 (by have := h.bd.2; omega),
   cA rfl h.ha.1,
   cA rfl h.fa.1,
   cB (x := v.ha) 0 32 (by decide) rfl h.ha.1 (by have := h.ha.2; omega),
   cC (x := v.ha) 0 32 rfl (by decide) rfl h.ha.1 (by have := h.ha.2; omega),
   cB (x := v.fa) 32 32 (by decide) rfl h.fa.1 (by have := h.fa.2; omega),
   cC (x := v.fa) 32 32 rfl (by decide) rfl h.fa.1 (by have := h.fa.2; omega),
   cD rfl h.st.2,
   cD rfl h.sl.2⟩
 ·have bq := b2_lt v.q
  have bg := b2_lt v.g
  have bc' := b2_lt v.c
  obtain ⟨h1, h2, h3, h4, h5, h6, h7, h8, h9, h10, h11⟩ := h
  have e0 := w0D (E := envS c.N st v f t) (i := 10) (x := v.st) 3 (by omega) rfl h1.1 (by show v.st < 8; omega)
  have e1 := wD (i := 11) (x := v.pr) (A := 8) (M := 2040) 3 8 rfl rfl (by decide) e0 h1.1 (by omega) rfl h2.1 (by show v.pr < 256; omega)
  have e2 := wD (i := 12) (x := v.sl) (A := 2048) (M := 14336) 11 3 rfl rfl (by decide) e1 (by omega) (by omega) rfl h3.1 (by show v.sl < 8; omega)
  have e3 := wB (A := 16384) (M := 16384) v.q 14 rfl rfl (by decide) e2 (by omega) (by omega)
  have e4 := wB (A := 32768) (M := 32768) v.g 15 rfl rfl (by decide) e3 (by omega) (by omega)
  have e5 := wB (A := 65536) (M := 65536) v.c 16 rfl rfl (by decide) e4 (by omega) (by omega)
  have e6 := wD (i := 19) (x := v.fk) (A := 131072) (M := 393216) 17 2 rfl rfl (by decide) e5 (by omega) (by omega) rfl h10.1 (by show v.fk < 4; omega)
  have g0 := w0D (E := envS c.N st v f t) (i := 13) (x := v.pv) 16 (by omega) rfl h4.1 (by show v.pv < 65536; omega)
  have g1 := wD (i := 14) (x := v.nx) (A := 65536) (M := 4294901760) 16 16 rfl rfl (by decide) g0 h4.1 (by omega) rfl h5.1 (by show v.nx < 65536; omega)
  have g2 := wD (i := 15) (x := v.bl) (A := 4294967296) (M := 281470681743360) 32 16 rfl rfl (by decide) g1 (by omega) (by omega) rfl h6.1 (by show v.bl < 65536; omega)
  have g3 := wD (i := 17) (x := v.bo) (A := 281474976710656) (M := 18446462598732840960) 48 16 rfl rfl (by decide) g2 (by omega) (by omega) rfl h8.1 (by show v.bo < 65536; omega)
  have k0 := w0D (E := envS c.N st v f t) (i := 16) (x := v.bd) 28 (by omega) rfl h7.1 (by show v.bd < 268435456; omega)
  have d0 := w0D (E := envS c.N st v f t) (i := 18) (x := v.ha) 32 (by omega) rfl h9.1 (by show v.ha < 4294967296; omega)
  have d1 := wD (i := 20) (x := v.fa) (A := 4294967296) (M := 18446744069414584320) 32 32 rfl rfl (by decide) d0 h9.1 (by omega) rfl h11.1 (by show v.fa < 4294967296; omega)
  exact wr_fin e6 g3 k0 d1 (regs f t) (fun j => rfl)
end Go.Ev
end
/-
 The queues of those who may run, as words: what pushing and dropping do to the words, and to the lists that they mean.
-/
set_option linter.unusedSimpArgs false
set_option linter.unusedVariables false
noncomputable section
namespace Go.Ev
open Go
def bitN (w k : Nat) (on : Bool) : Nat := match on with
 | true => (w ^^^ (w &&& 2 ^ k)) ||| 2 ^ k
 | false => w ^^^ (w &&& 2 ^ k)
def bitW (w : Int) (k : Nat) (on : Bool) : Int := ((bitN w.toNat k on : Nat) : Int)
theorem bitN_lt {w k n : Nat} (on : Bool) (hw : w < 2 ^ n) (hk : k < n) : bitN w k on < 2 ^ n := by
 have h2 : 2 ^ k < 2 ^ n := Nat.pow_lt_pow_right (by omega) hk
 have h3 : w &&& 2 ^ k < 2 ^ n := Nat.and_lt_two_pow _ h2
 cases on with
 | true => exact Nat.or_lt_two_pow (Nat.xor_lt_two_pow hw h3) h2
 | false => exact Nat.xor_lt_two_pow hw h3
def headOf (f : Nat → Int) (p : Nat) : Int := f (256 + p) % 65536
def tailOf (f : Nat → Int) (p : Nat) : Int := f (256 + p) / 65536 % 65536
def setQ (f : Nat → Int) (p : Nat) (h l : Int) : Nat → Int :=
 upd (upd (upd f (256 + p) (h + l * 65536)) (8 + p / 64) (bitW (f (8 + p / 64)) (p % 64) (!decide (h = 0)))) 4 (bitW (f 4) (p / 64) (!decide (bitW (f (8 + p / 64)) (p % 64) (!decide (h = 0)) = 0)))
def hdN (l : List Nat) (n : Nat) : Nat := match l with
 | [] => n
 | t :: _ => t
def laN : List Nat → Nat → Nat
 | [], p => p
 | t :: r, _ => laN r t
def Lk (f : Nat → Int) : Nat → List Nat → Nat → Prop
 | _, [], _ => True
 | p, t :: r, n => (getT f t).pv = (p : Int) ∧ (getT f t).nx = (hdN r n : Int) ∧ Lk f t r n
structure Thr (T : Nat → Prop) : Prop where
 lo : ∀ t, T t → 1024 ≤ t
 hi : ∀ t, T t → t + 64 ≤ 65536
 ap : ∀ t u, T t → T u → t ≠ u → Apart t u
structure QInv (T : Nat → Prop) (f : Nat → Int) (Q : Nat → List Nat) : Prop where
 thr : ∀ t, T t → RightAt f t
 el : ∀ p t, p < 256 → t ∈ Q p → T t ∧ (getT f t).pr = (p : Int) ∧ (getT f t).q = true
 off : ∀ t, T t → (getT f t).q = true → t ∈ Q (getT f t).pr.toNat
 free : ∀ t, T t → (getT f t).q = false → (getT f t).pv = 0 ∧ (getT f t).nx = 0
 nd : ∀ p, p < 256 → (Q p).Nodup
 lk : ∀ p, p < 256 → Lk f 0 (Q p) 0
 hd : ∀ p, p < 256 → f (256 + p) = (hdN (Q p) 0 : Int) + (laN (Q p) 0 : Int) * 65536
 bm : ∀ g, g < 4 → 0 ≤ f (8 + g) ∧ f (8 + g) < 18446744073709551616 ∧ ∀ k, k < 64 → Nat.testBit (f (8 + g)).toNat k = !(Q (64 * g + k)).isEmpty
 sm : 0 ≤ f 4 ∧ f 4 < 16 ∧ ∀ g, g < 4 → Nat.testBit (f 4).toNat g = !decide (f (8 + g) = 0)
variable {T : Nat → Prop} {f : Nat → Int} {Q : Nat → List Nat}
end Go.Ev
end
/-
 Pushing and dropping: the lists that are meant then.
-/
set_option linter.unusedSimpArgs false
set_option linter.unusedVariables false
noncomputable section
namespace Go.Ev
open Go
variable {T : Nat → Prop} {f : Nat → Int} {Q : Nat → List Nat}
structure Two (T : Nat → Prop) (f g : Nat → Int) (t : Nat) (v : TV) (P : Nat → TV → TV) : Prop where
 lo : ∀ i, i < 1024 → g i = f i
 me : getT g t = v
 ot : ∀ u, T u → u ≠ t → getT g u = P u (getT f u)
 ri : ∀ u, T u → RightAt g u
end Go.Ev
end
/-
 The highest queue that has any, by its bits.
-/
set_option linter.unusedSimpArgs false
set_option linter.unusedVariables false
noncomputable section
namespace Go.Ev
open Go
theorem blA_bounds : ∀ (f x : Nat), x < 2 ^ f → x ≠ 0 → 1 ≤ Lib.bitLenAux f x ∧ 2 ^ (Lib.bitLenAux f x - 1) ≤ x ∧ x < 2 ^ Lib.bitLenAux f x
 | 0, x, h, h0 => by simp at h; exact absurd h h0
 | f + 1, x, h, h0 => by
  have e : Lib.bitLenAux (f + 1) x = 1 + Lib.bitLenAux f (x / 2) := by show (if x = 0 then 0 else _) = _; rw [if_neg h0]
  rw [e]
  by_cases h1 : x / 2 = 0
  ·have hx : x = 1 := by omega
   subst hx
   have : Lib.bitLenAux f (1 / 2) = 0 := by cases f <;> simp [Lib.bitLenAux]
   rw [this]
   exact ⟨by omega, by decide, by decide⟩
  ·obtain ⟨a, b, c⟩ := blA_bounds f (x / 2) (by rw [Nat.pow_succ] at h; omega) h1
   refine ⟨by omega, ?_, ?_⟩
   ·have : 2 ^ (1 + Lib.bitLenAux f (x / 2) - 1) = 2 * 2 ^ (Lib.bitLenAux f (x / 2) - 1) := by
     rw [show 1 + Lib.bitLenAux f (x / 2) - 1 = (Lib.bitLenAux f (x / 2) - 1) + 1 from by omega, Nat.pow_succ, Nat.mul_comm]
    rw [this]; omega
   ·rw [Nat.add_comm, Nat.pow_succ]; omega
variable {T : Nat → Prop} {f : Nat → Int} {Q : Nat → List Nat}
inductive Top (Q : Nat → List Nat) : Option Nat → Prop where
 | none : (∀ p, p < 256 → Q p = []) → Top Q none
 | some (p : Nat) : p < 256 → Q p ≠ [] → (∀ q, p < q → q < 256 → Q q = []) → Top Q (some p)
end Go.Ev
end
/-
 Contracts of functions that call functions of which contracts are had.
-/
set_option linter.unusedSimpArgs false
set_option linter.unusedVariables false
noncomputable section
namespace Go.Ev
open Go Go.RowKit
variable {E E' : Env} {P : Program}
def anyF (es : List Ent) (F : Nat) : Bool := lRec false (fun e _ ih => bc (Nat.beq e.F F) true ih) es
def nthO (o : Nat) (es : List Ent) (q : Nat) : Option Ent := bc (Nat.ble o q) (nth es (Nat.sub q o)) none
def mtK (c : MC) (tbl : Nat → Option Ent) (F : Nat) : List V → H → Fa → K → Nat := fun l h fa k => mtH c tbl (fun _ _ _ _ _ => 1) F l h fa k
structure PEnt where
 F : Nat
 l : List V
 v : V
def puTry (ps : List PEnt) (F : Nat) (l : List V) : Option V := lRec none (fun e _ ih => bc (Nat.beq e.F F) (bc (vlBeq l e.l) (some e.v) ih) ih) ps
def puK (ps : List PEnt) (F : Nat) : List V → H → Fa → K → Nat := fun l h fa k => oc (puTry ps F l) (fun v => k v h fa) 1
def anyP (ps : List PEnt) (F : Nat) : Bool := lRec false (fun e _ ih => bc (Nat.beq e.F F) true ih) ps
def cxM (C : Cx) (c : MC) (o : Nat) (es : List Ent) (ps : List PEnt) : Cx := ⟨C.fn, fun F => bc (anyF es F) (some (mtK c (nthO o es) F)) (bc (anyP ps F) (some (puK ps F)) (C.hook F)), C.fuel⟩
structure PEntOk (P : Program) (E : Env) (e : PEnt) : Prop where
 bd : e.v.bd 0
 ca : Callable P e.F
 ok : ∀ (ρ : Rho) (w : World), Calls P e.F (γL E ρ e.l).toArray w fun ex w' => ex = .returned (e.v.γ E ρ) ∧ Below w.heap.size w w'
def EntsOk (P : Program) (c : MC) (E : Env) : Nat → List Ent → Prop
 | _, [] => True
 | q, e :: r => EntOk P c E q e ∧ EntsOk P c E (q + 1) r
theorem entsOk_get {c : MC} : ∀ {es : List Ent} {o : Nat}, EntsOk P c E o es → ∀ (i : Nat) (e : Ent), es[i]? = some e → EntOk P c E (o + i) e
 | [], o, _, i, e, h => by simp at h
 | x :: r, o, h, 0, e, he => by
  simp at he
  subst he
  exact h.1
 | x :: r, o, h, i + 1, e, he => by
  have := entsOk_get (es := r) h.2 i e (by simpa using he)
  rw [show o + 1 + i = o + (i + 1) from by omega] at this
  exact this
theorem nthO_ok {c : MC} {o : Nat} {es : List Ent} (h : EntsOk P c E o es) : ∀ q e, nthO o es q = some e → EntOk P c E q e := by
 intro q e hq
 unfold nthO at hq
 obtain ⟨h1, h2⟩ := bs_ok hq
 have h1 : o ≤ q := by simpa using h1
 rw [nth_eq] at h2
 have := entsOk_get h _ e h2
 rw [show o + Nat.sub q o = q from by show o + (q - o) = q; omega] at this
 exact this
theorem puTry_ok : ∀ {ps : List PEnt} {F : Nat} {l : List V} {v : V}, puTry ps F l = some v → ∃ e ∈ ps, e.F = F ∧ e.l = l ∧ e.v = v
 | [], F, l, v, h => by cases h
 | e :: r, F, l, v, h => by
  have h : bc (Nat.beq e.F F) (bc (vlBeq l e.l) (some e.v) (puTry r F l)) (puTry r F l) = some v := h
  cases h1 : Nat.beq e.F F with
  | false =>
   rw [h1] at h
   obtain ⟨x, hx, h2⟩ := puTry_ok (ps := r) h
   exact ⟨x, List.mem_cons_of_mem _ hx, h2⟩
  | true =>
   rw [h1] at h
   have h : bc (vlBeq l e.l) (some e.v) (puTry r F l) = some v := h
   cases h2 : vlBeq l e.l with
   | false =>
    rw [h2] at h
    obtain ⟨x, hx, h2⟩ := puTry_ok (ps := r) h
    exact ⟨x, List.mem_cons_of_mem _ hx, h2⟩
   | true =>
    rw [h2] at h
    exact ⟨e, List.mem_cons_self .., by simpa using h1, (vlBeq_ok h2).symm, Option.some.inj h⟩
theorem puK_ok {ps : List PEnt} (hp : ∀ e ∈ ps, PEntOk P E e) (F : Nat) : CallOk E P (fun G l h fa k => bc (Nat.beq G F) (puK ps F l h fa k) 1) := by
 intro G l h fa k hk hfa
 obtain ⟨hG, hk2⟩ := bc_ok (show bc (Nat.beq G F) (puK ps F l h fa k) 1 = 0 from hk) (by simp)
 have hG : G = F := by simpa using hG
 subst hG
 obtain ⟨v, hv, hk3⟩ := oc_ok (show oc (puTry ps G l) (fun v => k v h fa) 1 = 0 from hk2) (by simp)
 obtain ⟨e, he, rfl, rfl, rfl⟩ := puTry_ok hv
 obtain ⟨b, ca, ok⟩ := hp e he
 refine ⟨ca, e.v, h, fa, hk3, hfa, fun ρ w hb hs => (ok ρ w).mono ?_⟩
 rintro ex w' ⟨he, hb'⟩
 refine ⟨ρ, he, ⟨fun p o hp => O.Is_heap E (fun hl => hb'.block _ (hs.lt E hp hl)) (hs.obj p o hp), hs.inj, hs.bd⟩, ?_, bd_mono (Nat.zero_le _) _ b⟩
 exact ⟨Nat.le_refl _, rfl, fun _ _ => rfl, fun p o h1 h2 => by have := (hs.bd p o h2).1; omega, hb'.os, hb'.tape, hb'.output, hb'.size, fun b hb _ => hb'.block b hb, fun _ _ _ => rfl, fun p o _ h1 h2 => ⟨o, h1, h2⟩⟩
theorem mtK_ok {c : MC} {tbl : Nat → Option Ent} (ht : ∀ q e, tbl q = some e → EntOk P c E q e) (F : Nat) : CallOk E P (fun G l h fa k => bc (Nat.beq G F) (mtK c tbl F l h fa k) 1) := by
 intro G l h fa k hk hfa
 obtain ⟨hG, hk2⟩ := bc_ok (show bc (Nat.beq G F) (mtK c tbl F l h fa k) 1 = 0 from hk) (by simp)
 have hG : G = F := by simpa using hG
 subst hG
 exact mtH_ok ht (inner := fun _ _ _ _ _ => 1) (fun _ _ _ _ _ h => by cases h) _ _ _ _ _ (show mtH c tbl (fun _ _ _ _ _ => 1) G l h fa k = 0 from hk2) hfa
theorem cxM_ok {Y : Ty} {C : Cx} (hC : CxOk E P Y C) {c : MC} {o : Nat} {es : List Ent} {ps : List PEnt} (he : EntsOk P c E o es) (hp : ∀ e ∈ ps, PEntOk P E e) : CxOk E P Y (cxM C c o es ps) := by
 refine ⟨hC.ty, hC.mixed, hC.fn, fun F s hs => ?_⟩
 have hs : bc (anyF es F) (some (mtK c (nthO o es) F)) (bc (anyP ps F) (some (puK ps F)) (C.hook F)) = some s := hs
 cases h1 : anyF es F with
 | true =>
  rw [h1] at hs
  have hs := Option.some.inj (show some (mtK c (nthO o es) F) = some s from hs)
  subst hs
  exact mtK_ok (nthO_ok he) F
 | false =>
  rw [h1] at hs
  have hs : bc (anyP ps F) (some (puK ps F)) (C.hook F) = some s := hs
  cases h2 : anyP ps F with
  | true =>
   rw [h2] at hs
   have hs := Option.some.inj (show some (puK ps F) = some s from hs)
   subst hs
   exact puK_ok hp F
  | false =>
   rw [h2] at hs
   exact hC.hook F s hs
def envX (N : Nat) (st : Int) (vs : Nat → Int) (rows : Nat → Nat → Int) : Env := ⟨fun i => if i = 5 then st else vs i, fun _ => false, fun q => rowF N (rows q)⟩
theorem ent_x {c : MC} {st : Int} {vs : Nat → Int} {rows : Nat → Nat → Int} {q k : Nat} {e : Ent} {args : List Value} {ret : Value} (ha : ∀ ρ, γL (envX c.N st vs rows) ρ e.l = args) (hv : ∀ ρ, e.v.γ (envX c.N st vs rows) ρ = ret)
  (h1 : 1 ≤ k) (hk : e.k.den (envX c.N st vs rows) = (k : Nat)) (hm : MemC P c e.F args (rows q) ret (rows e.q') k) : EntOk P c (envX c.N st vs rows) q e :=
 ⟨rows q, rows e.q', k, h1, hk, rowF_is _ _, rowF_is _ _, fun ρ => by rw [ha ρ, hv ρ]; exact hm⟩
theorem stp_add {st : Int} {a b : SE} {k m : Nat} (ha : a.den E = stepI st k) (hb : b.den E = (m : Nat)) (hm : 1 ≤ m) : SE.den E (.op .add .i64 a b) = stepI st (k + m) := by
 show wrapF .i64 (a.den E + b.den E) = _
 unfold stepI at ha ⊢
 rw [if_neg (show ¬ k + m = 0 by omega), ha, hb]
 show _ = wrapF .i64 (st + ((k + m : Nat) : Int))
 by_cases h : k = 0
 ·rw [if_pos h, h]; simp
 ·rw [if_neg h]
  show wrapF .i64 (wrapF .i64 (st + (k : Int)) + (m : Int)) = _
  rw [wrapF_eq, wrapF_eq, wrapF_eq, IntKind.wrap_i64, IntKind.wrap_i64, IntKind.wrap_i64]
  omega
def runX (C : Cx) (c : MC) (es : List Ent) (ps : List PEnt) (F : Nat) (l : List V) (fa : Fa) (v : V) (q' : Nat) (sE : SE) : Nat := callT (cxM C c 0 es ps) 20 F (.ptr (.o .h) 0 :: l) (hMem c 0 .nil) fa (okM c v q' .nil sE)
theorem memC_x {Y : Ty} {C : Cx} (hC : ∀ E, CxOk E P Y C) {c : MC} (hN : c.N ≤ 8192) {F : Nat} {es : List Ent} {ps : List PEnt} {l : List V} {fa : Fa} {v : V} {q' k : Nat} {sE : SE} {args : List Value} {ret : Value} (hr : runX C c es ps F l fa v q' sE = 0) (hl : bdLB .h l = true)
  (vs : Nat → Int) (rows : Nat → Nat → Int)
  (hE : ∀ st : Int, sE.den (envX c.N st vs rows) = stepI st k ∧ FaOk (envX c.N st vs rows) fa ∧ EntsOk P c (envX c.N st vs rows) 0 es ∧ (∀ e ∈ ps, PEntOk P (envX c.N st vs rows) e) ∧ (∀ ρ, γL (envX c.N st vs rows) ρ l = args) ∧ ∀ ρ, v.γ (envX c.N st vs rows) ρ = ret) :
  MemC P c F args (rows 0) ret (rows q') k :=
 memC_of_run hN (bdLB_ok (n := .h) l hl) (fun i v _ hv => by rw [Tr.get_nil] at hv; cases hv) (fun st => by
  obtain ⟨h0, h1, h2, h3, h4, h5⟩ := hE st
  exact ⟨envX c.N st vs rows, rfl, h0, callT_run (cxM_ok (hC _) h2 h3) 20, h1, ovIs_nil (rowF_is _ _), ovIs_nil (rowF_is _ _), h4, h5⟩) hr
def rdS (a : Nat) : Sm := ⟨[.one (.i .i64 (.ofNat a))], [(a, 100)], [], .tup [.one (.s .u64 (.v 100)), .one (.i .i64 0)], [], 1⟩
def wrS (a : Nat) : Sm := ⟨[.one (.i .i64 (.ofNat a)), .one (.w .u64 10)], [], [], .one (.one (.i .i64 0)), [(a, .s .u64 (.v 10))], 1⟩
theorem read_c {c : MC} {F : Nat} {call0 : CallT} (hc : ∀ E, CallOk E P call0) {a : Nat} (hwf : (rdS a).wf c = true) (hr : (rdS a).run c F call0 = 0) (f : Nat → Int) :
  MemC P c F [.int .i64 a] f (.tuple #[.int .u64 (f a), .int .i64 0]) f 1 :=
 memC_of_sm (s := rdS a) hwf rfl hr fun st => ⟨envX c.N st (fun _ => f a) (fun _ => f), rfl, hc _, ⟨fun _ _ h => (by cases h), fun _ _ _ h => (by cases h)⟩, rowF_is _ _, fun p hp => by
  have : p = (a, 100) := by simpa [rdS] using hp
  subst this; rfl, rfl, fun ρ => rfl, fun ρ => rfl⟩
theorem write_c {c : MC} {F : Nat} {call0 : CallT} (hc : ∀ E, CallOk E P call0) {a : Nat} (hwf : (wrS a).wf c = true) (hr : (wrS a).run c F call0 = 0) (f : Nat → Int) (x : Int) :
  MemC P c F [.int .i64 a, .int .u64 x] f (.int .i64 0) (upd f a x) 1 :=
 memC_of_sm (s := wrS a) hwf rfl hr fun st => ⟨envX c.N st (fun _ => x) (fun _ => f), rfl, hc _, ⟨fun _ _ h => (by cases h), fun _ _ _ h => (by cases h)⟩, rowF_is _ _, fun p hp => (by cases hp), rfl, fun ρ => rfl, fun ρ => rfl⟩
end Go.Ev
end
/-
 Facts and threads in symbols, for contracts out of runs.
-/
set_option linter.unusedSimpArgs false
set_option linter.unusedVariables false
noncomputable section
namespace Go.Ev
open Go
variable {E : Env} {P : Program}
def fldT (v : TV) (r : Nat → Int) (j : Nat) : Int := match j with
 | 0 => v.st | 1 => v.pr | 2 => v.sl | 3 => b2 v.q | 4 => v.pv | 5 => v.nx | 6 => v.bl | 7 => v.bd | 8 => b2 v.g | 9 => b2 v.c | 10 => v.bo | 11 => v.ha | 12 => v.fk | 13 => v.fa | n + 14 => r n
theorem sbq {i : Nat} {b : Bool} (h : E.i i = b2 b) : SB.den E (.cmp .eql (.v i) (.lit 1)) = b := by
 show iEq (E.i i) 1 = b
 rw [h]
 cases b <;> rfl
theorem vsb {c : SB} {b : Bool} {ρ : Rho} (h : c.den E = b) : (V.sb c).γ E ρ = .bool b := congrArg Value.bool h
theorem vsi {k : IntKind} {e : SE} {x : Int} {ρ : Rho} (h : e.den E = x) : (V.si k e).γ E ρ = .int k x := congrArg (Value.int k) h
theorem thG {ρ : Rho} {x0 x1 x2 x3 x4 x5 x6 x7 x8 x9 x10 x11 x12 x13 y0 y1 y2 y3 y4 y5 y6 y7 y8 y9 y10 y11 y12 y13 y14 y15 : V} {v : TV} {r : Nat → Int} (h0 : x0.γ E ρ = .int .i64 v.st) (h1 : x1.γ E ρ = .int .i64 v.pr) (h2 : x2.γ E ρ = .int .i64 v.sl) (h3 : x3.γ E ρ = .bool v.q) (h4 : x4.γ E ρ = .int .i64 v.pv) (h5 : x5.γ E ρ = .int .i64 v.nx) (h6 : x6.γ E ρ = .int .i64 v.bl) (h7 : x7.γ E ρ = .int .i64 v.bd) (h8 : x8.γ E ρ = .bool v.g) (h9 : x9.γ E ρ = .bool v.c) (h10 : x10.γ E ρ = .int .i64 v.bo) (h11 : x11.γ E ρ = .int .i64 v.ha) (h12 : x12.γ E ρ = .int .i64 v.fk) (h13 : x13.γ E ρ = .int .i64 v.fa)
  (k0 : y0.γ E ρ = .int .u64 (r 0)) (k1 : y1.γ E ρ = .int .u64 (r 1)) (k2 : y2.γ E ρ = .int .u64 (r 2)) (k3 : y3.γ E ρ = .int .u64 (r 3)) (k4 : y4.γ E ρ = .int .u64 (r 4)) (k5 : y5.γ E ρ = .int .u64 (r 5)) (k6 : y6.γ E ρ = .int .u64 (r 6)) (k7 : y7.γ E ρ = .int .u64 (r 7)) (k8 : y8.γ E ρ = .int .u64 (r 8)) (k9 : y9.γ E ρ = .int .u64 (r 9)) (k10 : y10.γ E ρ = .int .u64 (r 10)) (k11 : y11.γ E ρ = .int .u64 (r 11)) (k12 : y12.γ E ρ = .int .u64 (r 12)) (k13 : y13.γ E ρ = .int .u64 (r 13)) (k14 : y14.γ E ρ = .int .u64 (r 14)) (k15 : y15.γ E ρ = .int .u64 (r 15)) :
  (V.agg [x0, x1, x2, x3, x4, x5, x6, x7, x8, x9, x10, x11, x12, x13, y0, y1, y2, y3, y4, y5, y6, y7, y8, y9, y10, y11, y12, y13, y14, y15]).γ E ρ = thV v r := by
 simp only [V.γ, γL, thV, h0, h1, h2, h3, h4, h5, h6, h7, h8, h9, h10, h11, h12, h13, k0, k1, k2, k3, k4, k5, k6, k7, k8, k9, k10, k11, k12, k13, k14, k15]
theorem thA {ρ : Rho} {x0 x1 x2 x3 x4 x5 x6 x7 x8 x9 x10 x11 x12 x13 y0 y1 y2 y3 y4 y5 y6 y7 y8 y9 y10 y11 y12 y13 y14 y15 : V} {v : TV} {r : Nat → Int} (h0 : x0.γ E ρ = .int .i64 v.st := by exact rfl) (h1 : x1.γ E ρ = .int .i64 v.pr := by exact rfl) (h2 : x2.γ E ρ = .int .i64 v.sl := by exact rfl) (h3 : x3.γ E ρ = .bool v.q := by exact vsb (sbq rfl)) (h4 : x4.γ E ρ = .int .i64 v.pv := by exact rfl) (h5 : x5.γ E ρ = .int .i64 v.nx := by exact rfl) (h6 : x6.γ E ρ = .int .i64 v.bl := by exact rfl) (h7 : x7.γ E ρ = .int .i64 v.bd := by exact rfl) (h8 : x8.γ E ρ = .bool v.g := by exact vsb (sbq rfl)) (h9 : x9.γ E ρ = .bool v.c := by exact vsb (sbq rfl)) (h10 : x10.γ E ρ = .int .i64 v.bo := by exact rfl) (h11 : x11.γ E ρ = .int .i64 v.ha := by exact rfl) (h12 : x12.γ E ρ = .int .i64 v.fk := by exact rfl) (h13 : x13.γ E ρ = .int .i64 v.fa := by exact rfl)
  (k0 : y0.γ E ρ = .int .u64 (r 0) := by exact rfl) (k1 : y1.γ E ρ = .int .u64 (r 1) := by exact rfl) (k2 : y2.γ E ρ = .int .u64 (r 2) := by exact rfl) (k3 : y3.γ E ρ = .int .u64 (r 3) := by exact rfl) (k4 : y4.γ E ρ = .int .u64 (r 4) := by exact rfl) (k5 : y5.γ E ρ = .int .u64 (r 5) := by exact rfl) (k6 : y6.γ E ρ = .int .u64 (r 6) := by exact rfl) (k7 : y7.γ E ρ = .int .u64 (r 7) := by exact rfl) (k8 : y8.γ E ρ = .int .u64 (r 8) := by exact rfl) (k9 : y9.γ E ρ = .int .u64 (r 9) := by exact rfl) (k10 : y10.γ E ρ = .int .u64 (r 10) := by exact rfl) (k11 : y11.γ E ρ = .int .u64 (r 11) := by exact rfl) (k12 : y12.γ E ρ = .int .u64 (r 12) := by exact rfl) (k13 : y13.γ E ρ = .int .u64 (r 13) := by exact rfl) (k14 : y14.γ E ρ = .int .u64 (r 14) := by exact rfl) (k15 : y15.γ E ρ = .int .u64 (r 15) := by exact rfl) :
  (V.agg [x0, x1, x2, x3, x4, x5, x6, x7, x8, x9, x10, x11, x12, x13, y0, y1, y2, y3, y4, y5, y6, y7, y8, y9, y10, y11, y12, y13, y14, y15]).γ E ρ = thV v r := thG h0 h1 h2 h3 h4 h5 h6 h7 h8 h9 h10 h11 h12 h13 k0 k1 k2 k3 k4 k5 k6 k7 k8 k9 k10 k11 k12 k13 k14 k15
theorem f_eq {a b : SE} (h : a.den E = b.den E) : (SB.cmp .eql a b).den E = true := by
 show iEq (a.den E) (b.den E) = true
 rw [iEq_eq]; exact decide_eq_true h
theorem f_eqn {a b : SE} (h : a.den E ≠ b.den E) : (SB.cmp .eql a b).den E = false := by
 show iEq (a.den E) (b.den E) = false
 rw [iEq_eq]; exact decide_eq_false h
theorem f_ne {a b : SE} (h : a.den E ≠ b.den E) : (SB.cmp .neq a b).den E = true := by
 show (!iEq (a.den E) (b.den E)) = true
 rw [iEq_eq, decide_eq_false h]; rfl
theorem f_nen {a b : SE} (h : a.den E = b.den E) : (SB.cmp .neq a b).den E = false := by
 show (!iEq (a.den E) (b.den E)) = false
 rw [iEq_eq, decide_eq_true h]; rfl
theorem f_lt {a b : SE} (h : a.den E < b.den E) : (SB.cmp .lss a b).den E = true := by
 show iLt (a.den E) (b.den E) = true
 rw [iLt_eq]; exact decide_eq_true h
theorem f_ltn {a b : SE} (h : b.den E ≤ a.den E) : (SB.cmp .lss a b).den E = false := by
 show iLt (a.den E) (b.den E) = false
 rw [iLt_eq]; exact decide_eq_false (by omega)
theorem f_gt {a b : SE} (h : b.den E < a.den E) : (SB.cmp .gtr a b).den E = true := by
 show iLt (b.den E) (a.den E) = true
 rw [iLt_eq]; exact decide_eq_true h
theorem f_gtn {a b : SE} (h : a.den E ≤ b.den E) : (SB.cmp .gtr a b).den E = false := by
 show iLt (b.den E) (a.den E) = false
 rw [iLt_eq]; exact decide_eq_false (by omega)
theorem f_len {a b : SE} (h : b.den E < a.den E) : (SB.cmp .leq a b).den E = false := by
 show iLe (a.den E) (b.den E) = false
 rw [iLe_eq]; exact decide_eq_false (by omega)
theorem f_ge {a b : SE} (h : b.den E ≤ a.den E) : (SB.cmp .geq a b).den E = true := by
 show iLe (b.den E) (a.den E) = true
 rw [iLe_eq]; exact decide_eq_true h
theorem f_gen {a b : SE} (h : a.den E < b.den E) : (SB.cmp .geq a b).den E = false := by
 show iLe (b.den E) (a.den E) = false
 rw [iLe_eq]; exact decide_eq_false (by omega)
def FsOk (E : Env) : List (SB × Bool) → Prop
 | [] => True
 | (c, b) :: r => c.den E = b ∧ FsOk E r
def RsOk (E : Env) : List (Nat × Int × Int) → Prop
 | [] => True
 | (i, a, b) :: r => (a ≤ E.i i ∧ E.i i ≤ b) ∧ RsOk E r
theorem fa_list {l : List (SB × Bool)} {r : List (Nat × Int × Int)} (h : FsOk E l) (h2 : RsOk E r) : FaOk E ⟨l, r⟩ := by
 constructor
 ·intro c b hm
  induction l with
  | nil => cases hm
  | cons p q ih =>
   obtain ⟨c', b'⟩ := p
   rcases List.mem_cons.1 hm with e | hm
   ·cases e; exact h.1
   ·exact ih h.2 hm
 ·intro i a b hm
  induction r with
  | nil => cases hm
  | cons p q ih =>
   obtain ⟨i', a', b'⟩ := p
   rcases List.mem_cons.1 hm with e | hm
   ·cases e; exact h2.1
   ·exact ih h2.2 hm
def PsOk (P : Program) (E : Env) : List PEnt → Prop
 | [] => True
 | e :: r => PEntOk P E e ∧ PsOk P E r
theorem ps_list : ∀ {l : List PEnt}, PsOk P E l → ∀ e ∈ l, PEntOk P E e
 | [], _, e, h => by cases h
 | x :: r, h, e, hm => by
  rcases List.mem_cons.1 hm with rfl | hm
  ·exact h.1
  ·exact ps_list h.2 e hm
theorem den_shl' {e : SE} {x A : Int} (n : Nat) (hA : (2 : Int) ^ n = A) (hn : n ≤ 64) (he : e.den E = x) (h0 : 0 ≤ x) (h1 : x * A < 18446744073709551616) : SE.den E (.op .shl .u64 e (.lit (n : Int))) = x * A := by
 rw [den_shl n hn he h0 (by rw [hA]; exact h1), hA]
theorem den_shr' {e : SE} {x A : Int} (n : Nat) (hA : (2 : Int) ^ n = A) (hn : n ≤ 64) (he : e.den E = x) (h0 : 0 ≤ x) : SE.den E (.op .shr .u64 e (.lit (n : Int))) = x / A := by
 rw [den_shr n hn he h0, hA]
def sv (n : Nat) : V := .si .i64 (.v n)
def tv (n : Nat) : V := .sb (.cmp .eql (.v n) (.lit 1))
def tA (b : Nat) (x0 x1 x2 x3 x4 x5 x6 x7 x8 x9 x10 x11 x12 x13 : V) : V := .agg [x0, x1, x2, x3, x4, x5, x6, x7, x8, x9, x10, x11, x12, x13, .si .u64 (.v (b + 14)), .si .u64 (.v (b + 15)), .si .u64 (.v (b + 16)), .si .u64 (.v (b + 17)), .si .u64 (.v (b + 18)), .si .u64 (.v (b + 19)), .si .u64 (.v (b + 20)), .si .u64 (.v (b + 21)), .si .u64 (.v (b + 22)), .si .u64 (.v (b + 23)), .si .u64 (.v (b + 24)), .si .u64 (.v (b + 25)), .si .u64 (.v (b + 26)), .si .u64 (.v (b + 27)), .si .u64 (.v (b + 28)), .si .u64 (.v (b + 29))]
def tD (b : Nat) : V := tA b (sv b) (sv (b + 1)) (sv (b + 2)) (tv (b + 3)) (sv (b + 4)) (sv (b + 5)) (sv (b + 6)) (sv (b + 7)) (tv (b + 8)) (tv (b + 9)) (sv (b + 10)) (sv (b + 11)) (sv (b + 12)) (sv (b + 13))
theorem ent_y {c : MC} {st : Int} {vs : Nat → Int} {rows : Nat → Nat → Int} {q k : Nat} {e : Ent} {args : List Value} {ret : Value} (hm : MemC P c e.F args (rows q) ret (rows e.q') k) (h1 : 1 ≤ k) (hk : e.k.den (envX c.N st vs rows) = (k : Nat))
  (ha : ∀ ρ, γL (envX c.N st vs rows) ρ e.l = args) (hv : ∀ ρ, e.v.γ (envX c.N st vs rows) ρ = ret) : EntOk P c (envX c.N st vs rows) q e := ent_x ha hv h1 hk hm
theorem tupT {ρ : Rho} {a : V} {x : Value} (h : a.γ E ρ = x) : (V.tup [a, .i .i64 0]).γ E ρ = .tuple #[x, .int .i64 0] := by
 simp only [V.γ, γL, h]
theorem arg1 {ρ : Rho} {x : V} {a : Value} (h1 : x.γ E ρ = a) : γL E ρ [x] = [a] := by simp only [γL, h1]
theorem arg2 {ρ : Rho} {x y : V} {a b : Value} (h1 : x.γ E ρ = a) (h2 : y.γ E ρ = b) : γL E ρ [x, y] = [a, b] := by simp only [γL, h1, h2]
theorem arg3 {ρ : Rho} {x y z : V} {a b d : Value} (h1 : x.γ E ρ = a) (h2 : y.γ E ρ = b) (h3 : z.γ E ρ = d) : γL E ρ [x, y, z] = [a, b, d] := by simp only [γL, h1, h2, h3]
end Go.Ev
end
/-
 Contracts of the document's functions that read a thread and write one.
-/
set_option linter.unusedSimpArgs false
set_option linter.unusedVariables false
set_option maxRecDepth 100000
noncomputable section
namespace Go.Ev
open Go
variable {E E' : Env} {P : Program}
def tdS (q g c : Bool) (t : Nat) : Sm := ⟨[(.one (.i .i64 (.ofNat t)))], [(t + 16, 100), (t + 17, 101), (t + 18, 102), (t + 19, 103), (t + 32, 104), (t + 33, 105), (t + 34, 106), (t + 35, 107), (t + 36, 108), (t + 37, 109), (t + 38, 110), (t + 39, 111), (t + 40, 112), (t + 41, 113), (t + 42, 114), (t + 43, 115), (t + 44, 116), (t + 45, 117), (t + 46, 118), (t + 47, 119)], [((.cmp .geq (.cv .i64 (.op .rem .u64 (.v 101) (.lit 65536))) (.lit 0)), true), ((.cmp .leq (.cv .i64 (.op .rem .u64 (.v 101) (.lit 65536))) (.lit 65535)), true), ((.cmp .geq (.cv .i64 (.op .rem .u64 (.op .shr .u64 (.v 101) (.lit 16)) (.lit 65536))) (.lit 0)), true), ((.cmp .leq (.cv .i64 (.op .rem .u64 (.op .shr .u64 (.v 101) (.lit 16)) (.lit 65536))) (.lit 65535)), true), ((.cmp .geq (.cv .i64 (.op .rem .u64 (.op .shr .u64 (.v 101) (.lit 32)) (.lit 65536))) (.lit 0)), true), ((.cmp .leq (.cv .i64 (.op .rem .u64 (.op .shr .u64 (.v 101) (.lit 32)) (.lit 65536))) (.lit 65535)), true), ((.cmp .geq (.cv .i64 (.op .shr .u64 (.v 101) (.lit 48))) (.lit 0)), true), ((.cmp .leq (.cv .i64 (.op .shr .u64 (.v 101) (.lit 48))) (.lit 65535)), true), ((.cmp .geq (.cv .i64 (.op .rem .u64 (.v 100) (.lit 8))) (.lit 0)), true), ((.cmp .leq (.cv .i64 (.op .rem .u64 (.v 100) (.lit 8))) (.lit 5)), true), ((.cmp .geq (.cv .i64 (.op .rem .u64 (.op .shr .u64 (.v 100) (.lit 3)) (.lit 256))) (.lit 0)), true), ((.cmp .leq (.cv .i64 (.op .rem .u64 (.op .shr .u64 (.v 100) (.lit 3)) (.lit 256))) (.lit 255)), true), ((.cmp .geq (.cv .i64 (.op .rem .u64 (.op .shr .u64 (.v 100) (.lit 11)) (.lit 8))) (.lit 0)), true), ((.cmp .leq (.cv .i64 (.op .rem .u64 (.op .shr .u64 (.v 100) (.lit 11)) (.lit 8))) (.lit 5)), true), ((.cmp .geq (.cv .i64 (.op .rem .u64 (.op .shr .u64 (.v 100) (.lit 17)) (.lit 4))) (.lit 0)), true), ((.cmp .leq (.cv .i64 (.op .rem .u64 (.op .shr .u64 (.v 100) (.lit 17)) (.lit 4))) (.lit 3)), true), ((.cmp .geq (.cv .i64 (.op .rem .u64 (.v 102) (.lit 268435456))) (.lit 0)), true), ((.cmp .leq (.cv .i64 (.op .rem .u64 (.v 102) (.lit 268435456))) (.lit 268435455)), true), ((.cmp .geq (.cv .i64 (.op .rem .u64 (.v 103) (.lit 4294967296))) (.lit 0)), true), ((.cmp .leq (.cv .i64 (.op .rem .u64 (.v 103) (.lit 4294967296))) (.lit 4294967295)), true), ((.cmp .geq (.cv .i64 (.op .shr .u64 (.v 103) (.lit 32))) (.lit 0)), true), ((.cmp .leq (.cv .i64 (.op .shr .u64 (.v 103) (.lit 32))) (.lit 4294967295)), true), ((.cmp .eql (.op .rem .u64 (.op .shr .u64 (.v 100) (.lit 14)) (.lit 2)) (.lit 1)), q), ((.cmp .eql (.op .rem .u64 (.op .shr .u64 (.v 100) (.lit 15)) (.lit 2)) (.lit 1)), g), ((.cmp .eql (.op .rem .u64 (.op .shr .u64 (.v 100) (.lit 16)) (.lit 2)) (.lit 1)), c), ((.cmp .eql (.op .add .u64 (.op .add .u64 (.op .add .u64 (.op .add .u64 (.op .add .u64 (.op .add .u64 (.cv .u64 (.cv .i64 (.op .rem .u64 (.v 100) (.lit 8)))) (.op .shl .u64 (.cv .u64 (.cv .i64 (.op .rem .u64 (.op .shr .u64 (.v 100) (.lit 3)) (.lit 256)))) (.lit 3))) (.op .shl .u64 (.cv .u64 (.cv .i64 (.op .rem .u64 (.op .shr .u64 (.v 100) (.lit 11)) (.lit 8)))) (.lit 11))) (.lit (b2 q * 16384))) (.lit (b2 g * 32768))) (.lit (b2 c * 65536))) (.op .shl .u64 (.cv .u64 (.cv .i64 (.op .rem .u64 (.op .shr .u64 (.v 100) (.lit 17)) (.lit 4)))) (.lit 17))) (.v 100)), true), ((.cmp .eql (.op .add .u64 (.op .add .u64 (.op .add .u64 (.cv .u64 (.cv .i64 (.op .rem .u64 (.v 101) (.lit 65536)))) (.op .shl .u64 (.cv .u64 (.cv .i64 (.op .rem .u64 (.op .shr .u64 (.v 101) (.lit 16)) (.lit 65536)))) (.lit 16))) (.op .shl .u64 (.cv .u64 (.cv .i64 (.op .rem .u64 (.op .shr .u64 (.v 101) (.lit 32)) (.lit 65536)))) (.lit 32))) (.op .shl .u64 (.cv .u64 (.cv .i64 (.op .shr .u64 (.v 101) (.lit 48)))) (.lit 48))) (.v 101)), true), ((.cmp .eql (.cv .u64 (.cv .i64 (.op .rem .u64 (.v 102) (.lit 268435456)))) (.v 102)), true), ((.cmp .eql (.op .add .u64 (.cv .u64 (.cv .i64 (.op .rem .u64 (.v 103) (.lit 4294967296)))) (.op .shl .u64 (.cv .u64 (.cv .i64 (.op .shr .u64 (.v 103) (.lit 32)))) (.lit 32))) (.v 103)), true)], (.tup [(.agg [(.s .i64 (.cv .i64 (.op .rem .u64 (.v 100) (.lit 8)))), (.s .i64 (.cv .i64 (.op .rem .u64 (.op .shr .u64 (.v 100) (.lit 3)) (.lit 256)))), (.s .i64 (.cv .i64 (.op .rem .u64 (.op .shr .u64 (.v 100) (.lit 11)) (.lit 8)))), (.b q), (.s .i64 (.cv .i64 (.op .rem .u64 (.v 101) (.lit 65536)))), (.s .i64 (.cv .i64 (.op .rem .u64 (.op .shr .u64 (.v 101) (.lit 16)) (.lit 65536)))), (.s .i64 (.cv .i64 (.op .rem .u64 (.op .shr .u64 (.v 101) (.lit 32)) (.lit 65536)))), (.s .i64 (.cv .i64 (.op .rem .u64 (.v 102) (.lit 268435456)))), (.b g), (.b c), (.s .i64 (.cv .i64 (.op .shr .u64 (.v 101) (.lit 48)))), (.s .i64 (.cv .i64 (.op .rem .u64 (.v 103) (.lit 4294967296)))), (.s .i64 (.cv .i64 (.op .rem .u64 (.op .shr .u64 (.v 100) (.lit 17)) (.lit 4)))), (.s .i64 (.cv .i64 (.op .shr .u64 (.v 103) (.lit 32)))), (.s .u64 (.v 104)), (.s .u64 (.v 105)), (.s .u64 (.v 106)), (.s .u64 (.v 107)), (.s .u64 (.v 108)), (.s .u64 (.v 109)), (.s .u64 (.v 110)), (.s .u64 (.v 111)), (.s .u64 (.v 112)), (.s .u64 (.v 113)), (.s .u64 (.v 114)), (.s .u64 (.v 115)), (.s .u64 (.v 116)), (.s .u64 (.v 117)), (.s .u64 (.v 118)), (.s .u64 (.v 119))]), (.one (.i .i64 0))]), [], 20⟩
end Go.Ev
end
/-
 The words of a row copied into a slice of their own; two such slices alike.
-/
set_option linter.unusedSimpArgs false
set_option linter.unusedVariables false
noncomputable section
namespace Go.Ev
open Go Go.RowKit
variable {E : Env} {P : Program}
end Go.Ev
end
/-
 A memory whose words are known, told as one whose words are a row.
-/
set_option linter.unusedSimpArgs false
set_option linter.unusedVariables false
noncomputable section
namespace Go.Ev
open Go
variable {E : Env} {P : Program}
def asRow (F : Nat) (id : Ev.P) (o o' : O) (inner : CallT) : CallT := fun G l h fa k =>
 bc (Nat.beq G F) (inner G l h fa (fun v h' fa => bc (ooBeq (h'.t.get id) (some o)) (bc (hmay h' id) (hc h' (fun n lo t => setK id t o' (fun t => k v ⟨n, lo, t⟩ fa))) 1) 1)) (inner G l h fa k)
theorem sat_as {ρ : Rho} {h : H} {w : World} (s : Sat E ρ h w) {id : Ev.P} {o o' : O} (hg : h.t.get id = some o) (l : o.mine = true) (hi : o'.Is E ρ (ρ id) w.heap) (hb : o'.bd h.n.toNat) : Sat E ρ (h.put id o') w := by
 have back : ∀ p u, (h.put id o').t.get p = some u → (p = id ∧ u = o') ∨ (p ≠ id ∧ h.t.get p = some u) := by
  intro p u hp
  have hp : (h.t.set id o').get p = some u := hp
  by_cases e : p = id
  ·subst e
   rw [PT.get_set_same] at hp
   exact .inl ⟨rfl, (Option.some.inj hp).symm⟩
  ·rw [PT.get_set_other _ _ _ _ (fun h => e h.symm)] at hp
   exact .inr ⟨e, hp⟩
 refine ⟨fun p u hp => ?_, fun p q u u' hp hq l1 l2 hh => ?_, fun p u hp => ?_⟩
 ·rcases back p u hp with ⟨rfl, rfl⟩ | ⟨_, hp⟩
  ·exact hi
  ·exact s.obj p u hp
 ·rcases back p u hp with ⟨e1, e1'⟩ | ⟨e1, hp2⟩ <;> rcases back q u' hq with ⟨e2, e2'⟩ | ⟨e2, hq2⟩
  ·rw [e1, e2]
  ·subst e1; exact s.inj _ _ _ _ hg hq2 l l2 hh
  ·subst e2; exact s.inj _ _ _ _ hp2 hg l1 (own_live l) hh
  ·exact s.inj _ _ _ _ hp2 hq2 l1 l2 hh
 ·rcases back p u hp with ⟨rfl, rfl⟩ | ⟨_, hp⟩
  ·exact ⟨(s.bd _ _ hg).1, hb⟩
  ·exact s.bd p u hp
theorem ext_as {ρ ρ' : Rho} {h h' : H} {w w' : World} (x : Ext ρ h w ρ' h' w') {id : Ev.P} {o o' : O} (hg : h'.t.get id = some o) (l : o.live = true) (hm : h'.lo.toNat ≤ id.toNat) : Ext ρ h w ρ' (h'.put id o') w' := by
 have back : ∀ p u, (h'.put id o').t.get p = some u → (p = id ∧ u = o') ∨ (p ≠ id ∧ h'.t.get p = some u) := by
  intro p u hp
  have hp : (h'.t.set id o').get p = some u := hp
  by_cases e : p = id
  ·subst e
   rw [PT.get_set_same] at hp
   exact .inl ⟨rfl, (Option.some.inj hp).symm⟩
  ·rw [PT.get_set_other _ _ _ _ (fun h => e h.symm)] at hp
   exact .inr ⟨e, hp⟩
 refine ⟨x.len, x.lo, x.agree, fun p u hp hg2 hl => ?_, x.os, x.tape, x.output, x.size, x.keep, fun p hp hq => ?_, fun p u hp hg2 hl => ?_⟩
 ·rcases back p u hg2 with ⟨rfl, rfl⟩ | ⟨_, hg2⟩
  ·exact x.new _ _ hp hg l
  ·exact x.new _ _ hp hg2 hl
 ·have : p ≠ id := fun e => by
   subst e
   rw [x.lo] at hm
   omega
  show (h'.t.set id o').get p = h.t.get p
  rw [PT.get_set_other _ _ _ _ (fun e => this e.symm)]
  exact x.old p hp hq
 ·rcases back p u hg2 with ⟨rfl, rfl⟩ | ⟨_, hg2⟩
  ·exact x.liv _ _ hp hg l
  ·exact x.liv _ _ hp hg2 hl
theorem asRow_ok {F : Nat} {id : Ev.P} {o o' : O} {inner : CallT} (hi : CallOk E P inner) (l : o.mine = true) (hc' : ∀ ρ L hp, o.Is E ρ L hp → o'.Is E ρ L hp) (hb : o'.bd 0) : CallOk E P (asRow F id o o' inner) := by
 intro G l' h fa k hk hfa
 unfold asRow at hk
 cases e : Nat.beq G F with
 | false => rw [e] at hk; exact hi _ _ _ _ _ hk hfa
 | true =>
  rw [e] at hk
  obtain ⟨ca, v, h', fa', hk', hfa', hrun⟩ := hi _ _ _ _ _ (show inner G l' h fa _ = 0 from hk) hfa
  obtain ⟨q1, hk'⟩ := bc_ok hk' (by simp)
  obtain ⟨q2, hk'⟩ := bc_ok hk' (by simp)
  have q1 := ooBeq_ok q1
  rw [hc_eq, setK_eq] at hk'
  refine ⟨ca, v, h'.put id o', fa', hk', hfa', fun ρ w hbd hs => (hrun ρ w hbd hs).mono ?_⟩
  rintro ex w' ⟨ρ', he, hs', hx', hv⟩
  exact ⟨ρ', he, sat_as hs' q1 l (hc' _ _ _ (hs'.obj _ _ q1)) (O.bd_mono (Nat.zero_le _) _ hb), ext_as hx' q1 (own_live l) (hmay_iff h' id q2), hv⟩
def trU64 : Tr V → Bool
 | .nil => true
 | .leaf (.i .u64 _) => true
 | .leaf _ => false
 | .node a b => trU64 a && trU64 b
def vNum : V → Int
 | .i _ n => n
 | _ => 0
def trF (t : Tr V) (i : Nat) : Int := vNum (trAt t 13 (.i .u64 0) i)
theorem trU64_get : ∀ {t : Tr V} {d i : Nat} {v : V}, trU64 t = true → t.get d i = some v → ∃ n, v = .i .u64 n
 | .nil, d, i, v, h, hg => by rw [Tr.get_nil] at hg; cases hg
 | .leaf x, 0, i, v, h, hg => by
  have hg : some x = some v := hg
  cases hg
  unfold trU64 at h
  cases x with
  | i k n => cases k <;> first | exact ⟨n, rfl⟩ | (cases h; done)
  | _ => cases h
 | .leaf x, d + 1, i, v, h, hg => by rw [Tr.get_succ] at hg; cases hg
 | .node a b, 0, i, v, h, hg => by cases hg
 | .node a b, d + 1, i, v, h, hg => by
  unfold trU64 at h
  simp only [Bool.and_eq_true] at h
  rw [Tr.get_succ] at hg
  have hg : (if i % 2 = 0 then a.get d (i / 2) else b.get d (i / 2)) = some v := hg
  split at hg
  ·exact trU64_get h.1 hg
  ·exact trU64_get h.2 hg
theorem trF_γ {t : Tr V} (h : trU64 t = true) (i : Nat) (ρ : Rho) : (trAt t 13 (.i .u64 0) i).γ E ρ = .int .u64 (trF t i) := by
 unfold trF trAt
 cases e : t.get 13 i with
 | none => rfl
 | some v =>
  obtain ⟨n, rfl⟩ := trU64_get h e
  rfl
theorem arr_row {t : TypeId} {q N : Nat} {tr : Tr V} (h : trU64 tr = true) (hq : WordsIs (E.s q).cs N (trF tr)) (ρ : Rho) (L : Pl) (hp : Array Obj) (hi : (O.arr t N 13 (.i .u64 0) tr).Is E ρ L hp) : (O.oa t q N 13 .nil).Is E ρ L hp := by
 obtain ⟨h1, cs, h2, h3, h4⟩ := hi
 refine ⟨h1, cs, h2, h3, hq.1, fun i hi => ?_⟩
 rw [h4 i hi, trF_γ h i ρ]
 unfold ovAt
 rw [Tr.get_nil]
 exact (hq.2 i hi).symm
theorem oaNil_bd (t : TypeId) (q n d : Nat) : (O.oa t q n d .nil).bd 0 := fun i v _ hv => by rw [Tr.get_nil] at hv; cases hv
end Go.Ev
end
/-
 Laws that do what a list says to two memories of unknown words.
-/
set_option linter.unusedSimpArgs false
set_option linter.unusedVariables false
noncomputable section
namespace Go.Ev
open Go Go.RowKit
variable {E : Env} {P : Program}
def sgL : List (Nat × SE) → Sg
 | [] => fun _ => none
 | (a, s) :: r => fun i => bc (Nat.beq i a) (some s) (sgL r i)
def nxS (σ : Sg) (E : Env) (x : Int) (rows : Nat → Row) (q : Nat) : Row := if q < 50 then { E.s q with idx := x.toNat } else match σ (100000 + q) with
 | some (.lit (.ofNat q')) => E.s q'
 | _ => rows q
def nxA (σ : Sg) (E : Env) (x : Int) (vs : Nat → Int) (rows : Nat → Row) : Env := ⟨fun i => match σ i with
 | some s => s.den E
 | none => vs i, E.b, nxS σ E x rows⟩
theorem nxA_tr (σ : Sg) (E : Env) (x : Int) (vs : Nat → Int) (rows : Nat → Row) : TrE σ E (nxA σ E x vs rows) := by
 refine ⟨fun i s h => by simp [nxA, h], rfl, fun q hq => ?_, fun q q' hq h => ?_⟩
 ·show rowSame (nxS σ E x rows q) _
  unfold nxS
  rw [if_pos hq]
  exact ⟨rfl, rfl, rfl, rfl, rfl, rfl, rfl, rfl⟩
 ·show (nxS σ E x rows q).cs = _
  unfold nxS
  rw [if_neg (by omega), h]
end Go.Ev
end
/-
 Who runs: what the scheduler's functions do to the words, and what the words mean then.
-/
set_option linter.unusedSimpArgs false
set_option linter.unusedVariables false
noncomputable section
namespace Go.Ev
open Go
variable {T : Nat → Prop} {f : Nat → Int} {Q : Nat → List Nat} {t : Nat}
def core (v : TV) : TV := { v with q := false, pv := 0, nx := 0 }
structure SS (T : Nat → Prop) (f : Nat → Int) (Q : Nat → List Nat) (P : Nat → TV) (c : Nat) : Prop where
 q : QInv T f Q
 th : ∀ t, T t → core (getT f t) = P t
 cur : f 1 = (c : Int)
 ct : c = 0 ∨ T c
 run : ∀ t, T t → ((P t).st = 1 ↔ (t = c ∨ (getT f t).q = true))
 nc : T c → (getT f c).q = false
variable {P : Nat → TV} {c : Nat}
theorem SS.pr (s : SS T f Q P c) (ht : T t) : (getT f t).pr = (P t).pr := by rw [← s.th t ht]; rfl
theorem SS.st (s : SS T f Q P c) (ht : T t) : (getT f t).st = (P t).st := by rw [← s.th t ht]; rfl
theorem SS.sl (s : SS T f Q P c) (ht : T t) : (getT f t).sl = (P t).sl := by rw [← s.th t ht]; rfl
end Go.Ev
end
