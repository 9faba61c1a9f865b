/-
 One word laid into a memory of unknown words, at a place that is a symbol, out of a slice of one's own.
-/
import Derived.Test.YtgaelfnoffejgaaE6
set_option linter.unusedSimpArgs false
set_option linter.unusedVariables false
noncomputable section
namespace Go.Ev
open Go
variable {E : Env} {P : Program}
def LoadC (P : Program) (c : MC) (F : Nat) (f : Nat → Int) (a x : Int) (f' : Nat → Int) (r : Int) : Prop := Callable P F ∧ ∀ (w : World) (bm ba bs : Nat) (t : TypeId) (st : Int), MemAt c w bm ba f st → w.heap[bs]? = some (.cells #[.int .u64 x] t (0, 0)) → bs ≠ ba →
 Calls P F #[.pointer (some ⟨bm, 0, none⟩), .int .i64 a, .slice (some ⟨bs, 0, none⟩) 1 1] w fun e w' => e = .returned (.int .i64 r) ∧ MemAt c w' bm ba f' st ∧ KeepM bm ba w w'
def ldO {σ : Type} (o : O) (f : V → σ) (e : σ) : σ := match o with
 | .cells _ [u] => f u
 | _ => e
structure LdE where
 F : Nat
 q : Nat
 q' : Nat
 a : V
 x : V
 v : Nat
def ldTry (c : MC) (e : LdE) (l : List V) (h : H) : Option AR := match l with
 | [.ptr m 0, y, .sl bs 0 1 1] => bc (V.beq y e.a && hmay h m) (oc (hget h m) (fun o => memO o (fun tm id n n' st => bc (Nat.beq tm c.tM && Nat.beq n c.N && Nat.beq n' c.N && hmay h id) (oc (hget h id) (fun oi => oaO oi (fun ta q0 n2 d tr =>
  bc (Nat.beq ta c.tA && Nat.beq n2 c.N && Nat.beq d 13 && trNil tr && Nat.beq q0 e.q) (oc (hget h bs) (fun ob => ldO ob (fun u => bc (V.beq u e.x) (some ⟨m, id, o, .oa c.tA e.q' c.N 13 .nil, .si .i64 (.v e.v)⟩) none) none) none) none) none) none) none) none) none) none
 | _ => none
def ldK (c : MC) (e : LdE) : List V → H → Fa → K → Nat := fun l h fa k => oc (ldTry c e l h) (fun x => x.go (fun m id om oi v => hc h (fun n lo t => setK m t om (fun t => setK id t oi (fun t => k v ⟨n, lo, t⟩ fa))))) 1
theorem ldO_ok {β : Type} {o : O} {f : V → Option β} {r : β} (h : ldO o f none = some r) : ∃ t u, o = .cells t [u] ∧ f u = some r := by
 unfold ldO at h
 split at h
 ·exact ⟨_, _, rfl, h⟩
 ·cases h
set_option maxHeartbeats 1000000 in
theorem ldK_ok {c : MC} {e : LdE} {f f' : Nat → Int} {a x r : Int} (hL : LoadC P c e.F f a x f' r) (hw : WordsIs (E.s e.q).cs c.N f) (hw' : WordsIs (E.s e.q').cs c.N f') (ha : ∀ ρ, e.a.γ E ρ = .int .i64 a) (hx : ∀ ρ, e.x.γ E ρ = .int .u64 x) (hr : E.i e.v = r) :
  CallOk E P (fun G l h fa k => bc (Nat.beq G e.F) (ldK c e l h fa k) 1) := by
 intro G l h fa k hk hfa
 obtain ⟨hG, hk2⟩ := bc_ok (show bc (Nat.beq G e.F) (ldK c e l h fa k) 1 = 0 from hk) (by simp)
 have hG : G = e.F := by simpa using hG
 subst hG
 obtain ⟨y, hy, hk3⟩ := oc_ok (show oc (ldTry c e l h) _ 1 = 0 from hk2) (by simp)
 clear hk hk2
 unfold ldTry at hy
 split at hy
 rotate_left
 ·cases hy
 rename_i m ya bs
 obtain ⟨hb, hy⟩ := bs_ok hy
 simp only [Bool.and_eq_true] at hb
 obtain ⟨b1, b2⟩ := hb
 have b1 := V.beq_ok b1
 obtain ⟨o, ho, hy⟩ := os_ok hy
 rw [hget_eq] at ho
 obtain ⟨tm, id, n, n', stv, st, e0, hy, hst⟩ := memO_ok hy
 obtain ⟨hb, hy⟩ := bs_ok hy
 simp only [Bool.and_eq_true, Nat.beq_eq] at hb
 obtain ⟨⟨⟨e1, e2⟩, e3⟩, b3⟩ := hb
 obtain ⟨oi, hoi, hy⟩ := os_ok hy
 rw [hget_eq] at hoi
 obtain ⟨ta, q0, n2, d, tr, e4, hy⟩ := oaO_ok hy
 obtain ⟨hb, hy⟩ := bs_ok hy
 simp only [Bool.and_eq_true, Nat.beq_eq] at hb
 obtain ⟨⟨⟨⟨e5, e6⟩, e7⟩, e8⟩, e9⟩ := hb
 obtain ⟨ob, hob, hy⟩ := os_ok hy
 rw [hget_eq] at hob
 obtain ⟨tb, u, e10, hy⟩ := ldO_ok hy
 obtain ⟨b4, hy⟩ := bs_ok hy
 have b4 := V.beq_ok b4
 have e8 : tr = .nil := by cases tr <;> first | rfl | (cases e8; done)
 have hy := Option.some.inj hy
 subst hy
 subst e0 e1 e2 e3 e4 e5 e6 e7 e8 e9 e10 b1 b4
 have hk3 : hc h (fun n lo t => setK m t (.cells c.tM [.sl id 0 c.N c.N, stv]) (fun t => setK id t (.oa c.tA e.q' c.N 13 .nil) (fun t => k (.si .i64 (.v e.v)) ⟨n, lo, t⟩ fa))) = 0 := hk3
 rw [hc_eq, setK_eq, setK_eq] at hk3
 refine ⟨hL.1, .si .i64 (.v e.v), h.two m id (.cells c.tM [.sl id 0 c.N c.N, stv]) (.oa c.tA e.q' c.N 13 .nil), fa, hk3, hfa, fun ρ w hbd hs => ?_⟩
 have hne : m ≠ id := by
  rintro rfl
  rw [ho] at hoi
  cases hoi
 have hnb : bs ≠ id := by
  rintro rfl
  rw [hob] at hoi
  cases hoi
 obtain ⟨hn13, cs, hcs, hsz, _, hcell⟩ := hs.obj id _ hoi
 have hmem : w.heap[(ρ m).b]? = some (.cells #[.slice (some ⟨(ρ id).b, 0, none⟩) c.N c.N, stv.γ E ρ] c.tM (0, 0)) := hs.obj m _ ho
 have hbk : w.heap[(ρ bs).b]? = some (.cells #[e.x.γ E ρ] tb (0, 0)) := hs.obj bs _ hob
 have hbne : (ρ m).b ≠ (ρ id).b := fun h => hne (hs.inj m id _ _ ho hoi rfl rfl h)
 have hbne2 : (ρ bs).b ≠ (ρ id).b := fun h => hnb (hs.inj bs id _ _ hob hoi rfl rfl h)
 have hat : MemAt c w (ρ m).b (ρ id).b f (st.den E) := ⟨hbne, by rw [hmem, hst], cs, hcs, hsz, fun i hi => by
  rw [hcell i hi]
  unfold ovAt
  rw [Tr.get_nil]
  exact hw.2 i hi⟩
 have hargs : (γL E ρ [.ptr m 0, e.a, .sl bs 0 1 1]).toArray = #[.pointer (some ⟨(ρ m).b, 0, none⟩), .int .i64 a, .slice (some ⟨(ρ bs).b, 0, none⟩) 1 1] := by
  simp only [γL, ha]
  rfl
 rw [hargs]
 refine (hL.2 w _ _ _ tb _ hat (by rw [hbk, hx]) hbne2).mono ?_
 rintro ex w' ⟨he, ⟨_, am, cs', acs, aws⟩, hkk⟩
 have hfin := sat_two hs ho hoi rfl rfl hne (hmay_iff h m b2) (hmay_iff h id b3) (om := .cells c.tM [.sl id 0 c.N c.N, stv]) (oi := .oa c.tA e.q' c.N 13 .nil) (w' := w') (by
   show w'.heap[(ρ m).b]? = some (.cells (γL E ρ [.sl id 0 c.N c.N, stv]).toArray c.tM (0, 0))
   rw [am]
   simp only [γL, hst]
   rfl) ⟨hn13, cs', acs, aws.1, hw'.1, fun i hi => by
    rw [aws.2 i hi]
    unfold ovAt
    rw [Tr.get_nil]
    exact (hw'.2 i hi).symm⟩ (hs.bd m _ ho).2 (fun i v _ hv => by rw [Tr.get_nil] at hv; cases hv) hkk.os hkk.tape hkk.output hkk.size hkk.keep
 refine ⟨ρ, ?_, hfin.1, hfin.2, trivial⟩
 rw [he]
 show _ = Ending.returned (.int .i64 (E.i e.v))
 rw [hr]
def cxH (C : Cx) (F : Nat) (s : List V → H → Fa → K → Nat) : Cx := ⟨C.fn, fun G => bc (Nat.beq G F) (some s) (C.hook G), C.fuel⟩
theorem cxH_ok {Y : Ty} {C : Cx} (hC : CxOk E P Y C) {F : Nat} {s : List V → H → Fa → K → Nat} (h : CallOk E P (fun G l h fa k => bc (Nat.beq G F) (s l h fa k) 1)) : CxOk E P Y (cxH C F s) := by
 refine ⟨hC.ty, hC.mixed, hC.fn, fun G s' hs => ?_⟩
 have hs : bc (Nat.beq G F) (some s) (C.hook G) = some s' := hs
 cases e1 : Nat.beq G F with
 | true =>
  rw [e1] at hs
  have hs := Option.some.inj (show some s = some s' from hs)
  have e1 : G = F := by simpa using e1
  subst hs e1
  exact h
 | false =>
  rw [e1] at hs
  exact hC.hook G s' hs
end Go.Ev
end
