/-
  PROVED: citadellaw17.IpcOrder returns true at every input; its arguments read as before. Condition: none.
-/
import Derived.Test.YtedbnfdmeigabaaGreatRows
import Derived.Test.YtedbnfdmeigabaaGreatLen
import Derived.Test.YtedbnfdmeigabaaGreatRA
import Derived.Test.YtedbnfdmeigabaaGreatRI
import Derived.Test.YtedbnfdmeigabaaGreatRP
import Derived.Test.YtedbnfdmeigabaaGreatGB
import Derived.Test.YtedbnfdmeigabaaGreatE5
import Derived.ProofKit
import Derived.OpenShut
import Derived.Deep.DeepHandedRow
set_option linter.unusedSimpArgs false
set_option linter.unusedVariables false
noncomputable section
namespace Go.Proofs.YtedbnfdmeigabaaGreat
open Go Go.Ev Go.Ev.X Go.ChangeShapes Go.WideShapes Go.ChangeAt Go.RowKit
theorem lenOk {E : Env} : LenA E := fun E' _ => len64_ok Tryz.call195 (fun x w h0 h1 => Tryz.bits_Len64 x w h0 h1)
theorem sat_nil {E : Env} (ρ : Rho) (w : World) : Sat E ρ ⟨.h, .h, .e⟩ w :=
  ⟨fun p o hp => absurd (show (none : Option O) = some o from (PT.get_e p).symm.trans hp) (by simp), fun p q o o' hp => absurd (show (none : Option O) = some o from (PT.get_e p).symm.trans hp) (by simp),
   fun p o hp => absurd (show (none : Option O) = some o from (PT.get_e p).symm.trans hp) (by simp)⟩
theorem ext_below {ρ ρ' : Rho} {h' : H} {w w' : World} (x : Ext ρ ⟨.h, .h, .e⟩ w ρ' h' w') : Below w.heap.size w w' :=
  ⟨x.os, x.tape, x.output, x.size, fun b hb => x.keep b hb fun p o hp => absurd (show (none : Option O) = some o from (PT.get_e p).symm.trans hp) (by simp)⟩
/-- what a run that ends well gives -/
theorem law_of_run {E : Env} {F : Nat} {l : List V} {fa : Fa} {inner : CallT} (hi : CallOk E Tryz.prog inner) (hfa : FaOk E fa) (hr : callS cx1 0 inner F l ⟨.h, .h, .e⟩ fa Go.Ev.X.endB = 0) (hl : bdL 1 l) (W : World) :
    Calls Tryz.prog F (γL E (fun _ => ⟨0, 0⟩) l).toArray W fun e w' => e = .returned (.bool true) ∧ Below W.heap.size W w' := by
  obtain ⟨_, v, h', fa', hk, _, hc⟩ := callS_run (cx1_ok lenOk) 0 hi _ _ _ _ _ hr hfa
  obtain ⟨hv, _⟩ := bc_ok (show bc (V.beq v (.b true)) 0 1 = 0 from hk) (by simp)
  have hv := V.beq_ok hv
  subst hv
  refine (hc (fun _ => ⟨0, 0⟩) W hl (sat_nil _ W)).mono ?_
  rintro e w' ⟨ρ', rfl, _, x, _⟩
  exact ⟨rfl, ext_below x⟩
theorem cxA (E : Env) : CxOk E Tryz.prog (tyOf Tryz.prog) cx1 := cx1_ok lenOk
theorem clA (E : Env) : CallOk E Tryz.prog call1 := call1_ok lenOk
theorem callA' (E : Env) : CallOk E Tryz.prog callA := callA_ok (cxA E) (clA E)
def X (E : Env) : Prop := (∀ i, 21 ≤ i → i < 24 → -9223372036854775808 ≤ E.i i ∧ E.i i ≤ 9223372036854775807) ∧ E.i 31 = pickI (E.i 21) 1000 ∧ E.i 32 = pickI (E.i 22) 1000 ∧ E.i 33 = pickI (E.i 23) 1000
theorem X_stays : Stays kp X := by
  intro E E' hi _ _ hX
  have h21 := hi 21 (by decide) (by decide) (by decide) (by decide)
  have h22 := hi 22 (by decide) (by decide) (by decide) (by decide)
  have h23 := hi 23 (by decide) (by decide) (by decide) (by decide)
  have h31 := hi 31 (by decide) (by decide) (by decide) (by decide)
  have h32 := hi 32 (by decide) (by decide) (by decide) (by decide)
  have h33 := hi 33 (by decide) (by decide) (by decide) (by decide)
  obtain ⟨hb, h1, h2, h3⟩ := hX
  refine ⟨fun i g1 g2 => ?_, by rw [h31, h21]; exact h1, by rw [h32, h22]; exact h2, by rw [h33, h23]; exact h3⟩
  rcases (by omega : i = 21 ∨ i = 22 ∨ i = 23) with rfl | rfl | rfl
  · rw [h21]; exact hb 21 (by omega) (by omega)
  · rw [h22]; exact hb 22 (by omega) (by omega)
  · rw [h23]; exact hb 23 (by omega) (by omega)
theorem fx_ok : ∀ E, X E → ∀ c ∈ fxL, SB.den E c.1 = c.2 := by
  intro E hX
  obtain ⟨_, h1, h2, h3⟩ := hX
  have p1 := pickI_lt (c := E.i 21) (n := 1000) (by omega)
  have p2 := pickI_lt (c := E.i 22) (n := 1000) (by omega)
  have p3 := pickI_lt (c := E.i 23) (n := 1000) (by omega)
  exact all_app (all_app (bG_ok (by omega) (by omega)) (bG_ok (by omega) (by omega))) (bG_ok (by omega) (by omega))
theorem c0_ok {E : Env} (hX : X E) : CallOk E Tryz.prog c0K := (pick_pure (v := (.si .i64 (.v 33))) Tryz.call10 (fun E' _ => cxA E') (fun E' _ => clA E') pk1000_0 pk1000_1 (hX.1 23 (by omega) (by omega)) trivial (fun ρ => by simp only [V.γ, SE.den, hX.2.2.2]) (pick_pure (v := (.si .i64 (.v 32))) Tryz.call10 (fun E' _ => cxA E') (fun E' _ => clA E') pk1000_0 pk1000_1 (hX.1 22 (by omega) (by omega)) trivial (fun ρ => by simp only [V.γ, SE.den, hX.2.2.1]) (pick_pure (v := (.si .i64 (.v 31))) Tryz.call10 (fun E' _ => cxA E') (fun E' _ => clA E') pk1000_0 pk1000_1 (hX.1 21 (by omega) (by omega)) trivial (fun ρ => by simp only [V.γ, SE.den, hX.2.1]) (clA E))))
theorem cp_ok {E : Env} {k : Nat} (hX : X E) (h3 : -9223372036854775808 ≤ E.i 3 ∧ E.i 3 ≤ 9223372036854775807) (hk : pickI (E.i 3) 3 = (k : Nat)) : CallOk E Tryz.prog (cpK k) := (pick_pure (v := (.i .i64 (.ofNat k))) Tryz.call10 (fun E' _ => cxA E') (fun E' _ => clA E') pk3_0 pk3_1 h3 trivial (fun ρ => by simp only [V.γ, hk]; rfl) (c0_ok hX))
theorem inK_ok {E : Env} (hX : X E) : CallOk E Tryz.prog inK := (msR_ok rfl gbo gbt FaOk.nil (clA E) (callA' E))
theorem nilK_ok {E : Env} (hX : X E) : CallOk E Tryz.prog nilK := (msS_ok rfl abt FaOk.nil (clA E) (callA' E))
theorem ck1 : ∀ j k, j < n1 → k < 3 → t1 j k < n1 := fun j k hj hk => by
  have h := rng_ok (rng_ok chk1 j hj) k hk
  simpa using h
theorem ck2 : ∀ j, j < n1 → o2 j < n2 := fun j hj => by
  have h := rng_ok chk2 j hj
  simpa using h
theorem ck3 : ∀ j, j < n2 → e2 j = false → t2 j < n2 ∧ rk (t2 j) < rk j := fun j hj he => by
  have h := rng_ok chk3 j hj
  have h : bc (e2 j) true (bc (Nat.blt (t2 j) n2) (Nat.blt (rk (t2 j)) (rk j)) false) = true := h
  rw [he] at h
  have h : bc (Nat.blt (t2 j) n2) (Nat.blt (rk (t2 j)) (rk j)) false = true := h
  cases h1 : Nat.blt (t2 j) n2 with
  | false => rw [h1] at h; cases h
  | true =>
    rw [h1] at h
    have h : Nat.blt (rk (t2 j)) (rk j) = true := h
    exact ⟨by simpa using h1, by simpa using h⟩
theorem ck4 : ∀ j, j < n1 → rowK (st1 (2 * j)).h = true ∧ rowU (st1 (2 * j + 1)).h = true := fun j hj => by
  have h := rng_ok chk4 j hj
  have h : bc (rowK (st1 (2 * j)).h) (rowU (st1 (2 * j + 1)).h) false = true := h
  cases h1 : rowK (st1 (2 * j)).h with
  | false => rw [h1] at h; cases h
  | true => rw [h1] at h; exact ⟨rfl, h⟩
theorem ck5 : ∀ j, j < n2 → rowU (st2 j).h = true := rng_ok chk5
theorem nb {n : Nat} (h : Nat.beq n 0 = true) : n = 0 := Nat.eq_of_beq_eq_true h
theorem go_j (j k : Nat) (hj : j < n1) (hk : k < 3) : runZ st1 qC.x1 (qC.end1 ⟨cpK k, 4, 20000⟩ st2 []) ⟨cpK k, 4, 20000⟩ (2 * j) ⟨fGoO 20 ++ fxL, []⟩ [(2 * t1 j k, sgW kp (some (.op .add .i64 (.v 2) (.lit 1))) (c1 j k)), (2 * t1 j k + 1, sgW kp (some (.op .add .i64 (.v 2) (.lit 1))) (c1 j k))] = 0 :=
  nb (allB_ok (show allB _ _ = true from rg_all j (Nat.zero_le _) hj) k (by show k ∈ ([0, 1, 2] : List Nat); simp; omega))
theorem out_j (j : Nat) (b : Bool) (hj : j < n1) : runZ st1 qC.x1 (qC.end1 ⟨c0K, 4, 20000⟩ st2 [(o2 j, sgW kp none (co j))]) ⟨c0K, 4, 20000⟩ (2 * j + 1) ⟨fOutO 20 b ++ fxL, []⟩ [] = 0 :=
  nb (allB_ok (show allB _ _ = true from ro_all j (Nat.zero_le _) hj) b (by cases b <;> simp))
theorem go2_j (j : Nat) (hj : j < n2) : runZ st2 qC.x2 (qC.end2 ⟨c0K, 4, 20000⟩) ⟨c0K, 4, 20000⟩ j ⟨fxL, []⟩ (bif e2 j then [] else [(t2 j, sgW kp none (c2 j))]) = 0 :=
  nb (rh_all j (Nat.zero_le _) hj)
theorem sat_row {E : Env} {W : World} (hW : W.heap[(E.s 0).b]? = some (.cells (E.s 0).cs (E.s 0).t (E.s 0).fz)) (he : (E.s 0).esz = 1) (hl : E.i 1 = (E.s 0).len) : Sat E (fun _ => ⟨(E.s 0).b, 0⟩) hR W := by
  have get : ∀ p o, hR.t.get p = some o → p = .h ∧ o = .row 0 1 (.v 1) (.v 2) [] := by
    intro p o hp
    by_cases h : p = .h
    · subst h
      have : some (O.row 0 1 (.v 1) (.v 2) []) = some o := hp
      exact ⟨rfl, (Option.some.inj this).symm⟩
    · have : hR.t.get p = (PT.e : PT O).get p := PT.get_set_other .h p .e _ (fun e => h e.symm)
      rw [this, PT.get_e] at hp
      cases hp
  refine ⟨fun p o hp => ?_, fun p q o o' hp hq _ _ _ => ?_, fun p o hp => ?_⟩
  · obtain ⟨rfl, rfl⟩ := get p o hp
    exact ⟨rfl, hW, he, hl, fun h => absurd rfl h⟩
  · rw [(get p o hp).1, (get q o' hq).1]
  · obtain ⟨rfl, rfl⟩ := get p o hp
    exact ⟨by decide, trivial⟩
theorem order_E (E : Env) (W : World) (hX : X E) (hW : W.heap[(E.s 0).b]? = some (.cells (E.s 0).cs (E.s 0).t (E.s 0).fz)) (he : (E.s 0).esz = 1) (hlen : E.i 1 = (E.s 0).len) {D : Nat → Int} (hD : RowD (E.s 0) D) {l : List V} (hl : bdL hR.n.toNat l) {j0 : Nat} (hj0 : j0 < n1) {s0 : SE}
    (hin : initFr l (fun fr => zIn qC.z0 ⟨inK, 4, 20000⟩ fr hR ⟨fxL, []⟩ (fun fr h fa => zIn qC.z1 ⟨inK, 4, 20000⟩ fr h fa (fun fr h _ => nextK st1 [(2 * j0, sgW kp (some (.lit 0)) s0), (2 * j0 + 1, sgW kp (some (.lit 0)) s0)] fr h) (kLoop qC.z2 ⟨inK, 4, 20000⟩ st2 [] (zOut qC.z0 ⟨inK, 4, 20000⟩ (koB qC.rs)))) (koB qC.rs)) = 0) :
    Calls Tryz.prog 4 (γL E (fun _ => ⟨(E.s 0).b, 0⟩) l).toArray W fun e w' => e = .returned (.bool true) ∧ Below W.heap.size W w' := by
  have hn : ∀ (p : Ev.P) (o : O), hR.t.get p = some o → o.live = true → hR.lo.toNat ≤ p.toNat → W.heap.size ≤ ((fun _ => (⟨(E.s 0).b, 0⟩ : Pl)) p).b := by
    intro p o hp _ h2
    have := ((sat_row hW he hlen).bd p o hp).1
    have e1 : hR.n.toNat = 2 := rfl
    have e2 : hR.lo.toNat = 2 := rfl
    omega
  exact order_law tyOk_tyOf mixedX Tryz.func4 cC w4 (n1 := n1) (n2 := n2) (K := 3) (by decide) (B := 20) (by decide) (kp := kp) rfl (st1 := st1) (st2 := st2) (t1 := t1) (c1 := c1) (o2 := o2) (co := co) (t2 := t2) (e2 := e2) (c2 := c2) (rk := rk) (X := X) X_stays (fx := fxL) fx_ok (c0 := c0K) (fun E h => c0_ok h) (cp := cpK) (fun E k h h3 hk => cp_ok h h3 hk)
    ck1 ck2 ck3 ck4 ck5 go_j out_j go2_j hX hlen ⟨D, hD⟩ hj0 (g0 := ⟨inK, 4, 20000⟩) (inK_ok hX) (fa_all (fx_ok E hX)) hin (sat_row hW he hlen) hl hn
theorem trodAll_stays {H : Type} {enc : TypeId × Value → H} {P : Program} (hl : laidOutB P = true) {W W' : World} (hb : Below W.heap.size W W') :
    ∀ (ts : List TypeId) (vs : List Value) (ds : List (DataW H)) (ps : List MemPlace), (∀ t ∈ ts, P.readableRec t = true ∧ t < P.types.size) →
    DataW.TrodAll enc P W 0 (fun _ => true) true ts vs ds ps → (∀ x ∈ ps, x.block < W.heap.size) → DataW.TrodAll enc P W' 0 (fun b => decide (b < W.heap.size)) true ts vs ds ps := by
  intro ts
  induction ts with
  | nil =>
    intro vs ds ps _ h _
    obtain ⟨rfl, rfl, rfl⟩ := trodAll_nil h
    exact trodAll_mk0
  | cons t ts ih =>
    intro vs ds ps hr h hlt
    obtain ⟨v0, vs0, d0, ds0, p0, q0, rfl, rfl, rfl, h0, r0⟩ := trodAll_cons h
    have h1 := hr t (by simp)
    exact trodAll_cons_mk (Below.trod hl h1.1 h1.2 h0 hb (fun x hx => hlt x (by simp [hx]))) (ih _ _ _ (fun t' ht' => hr t' (by simp [ht'])) r0 (fun x hx => hlt x (by simp [hx])))

theorem law_post {H : Type} {enc : TypeId × Value → H} {P : Program} {f : Func} {s : ChangeSpec} {W W' : World} {args : Array Value} {ds gs : List (DataW H)} {before : List MemPlace} {tb : TypeId}
    (hl : laidOutB P = true) (hr : ∀ t ∈ f.params.toList, P.readableRec t = true ∧ t < P.types.size) (hvars : s.vars = []) (hres : f.resultTypes = #[tb]) (htb : P.underlying tb = some .bool)
    (hW : DataW.Whole enc P f.params.toList s.vars false W args.toList ds gs before) (hb : Below W.heap.size W W')
    (hfn : s.fn H (ds ++ gs) = { results := [.lit (.bool true)], args := ds }) :
    s.post enc P f false true false false W args (.bool true) W' := by
  have hW0 := hW
  obtain ⟨p, q, hA, hV, hpq, hfz, hnd⟩ := hW
  refine ⟨ds, gs, before, [], p, [], hW0, ?_, ?_, ?_, hb.frame _, fun h => by cases h⟩
  · rw [hfn, hres]
    exact trodAll_cons_mk (shut_bool htb true) trodAll_mk0
  · rw [hfn]
    refine trodAll_stays hl hb _ _ _ _ hr hA (fun x hx => ?_)
    exact hW0.lt x (by rw [hpq]; simp [hx])
  · rw [hvars, hfn]
    rfl
theorem arr_any (W : World) (a1 : Nat → Int) (b1 : ∀ i, i < 4 → -9223372036854775808 ≤ a1 i ∧ a1 i ≤ 9223372036854775807) (a2 : Nat → Int) (b2 : ∀ i, i < 4 → 0 ≤ a2 i ∧ a2 i ≤ 18446744073709551615) {b off len cap : Nat} {cs : Array Value} {t : TypeId} {fz : Nat × Nat} (hW : W.heap[b]? = some (.cells cs t fz)) {zs : List Int} (hz : len ≤ zs.length)
    (hc : ∀ i, i < zs.length → cs[off + i]? = some (.int .i64 (zs.getD i 0))) (hr : ∀ n ∈ zs, (Lit.int .i64 n).wf = true) :
    Calls Tryz.prog 4 #[.slice (some ⟨b, off, none⟩) len cap, .agg ((List.range 4).map (fun i => Value.int .i64 (a1 i))).toArray, .agg ((List.range 4).map (fun i => Value.int .u64 (a2 i))).toArray] W fun e w' => e = .returned (.bool true) ∧ Below W.heap.size W w' := by
  obtain ⟨E, hE⟩ : ∃ E : Env, E = ⟨fun i => if 20 ≤ i ∧ i < 24 then a1 (i - 20) else if 24 ≤ i ∧ i < 28 then a2 (i - 24) else if i = 31 then pickI (a1 1) 1000 else if i = 32 then pickI (a1 2) 1000 else if i = 33 then pickI (a1 3) 1000 else len, fun _ => false, fun _ => ⟨b, off, len, cap, 1, 0, t, cs, fz⟩⟩ := ⟨_, rfl⟩
  have h1 : E.i 1 = len := by rw [hE] <;> rfl
  have hs : E.s 0 = ⟨b, off, len, cap, 1, 0, t, cs, fz⟩ := by rw [hE]
  have hX : X E := by
    rw [hE]
    exact ⟨fun i g1 g2 => by show -9223372036854775808 ≤ (if 20 ≤ i ∧ i < 24 then a1 (i - 20) else _) ∧ (if 20 ≤ i ∧ i < 24 then a1 (i - 20) else _) ≤ _; rw [if_pos (by omega)]; exact b1 (i - 20) (by omega), rfl, rfl, rfl⟩
  have hD : RowD (E.s 0) (fun i => zs.getD i 0) := by
    rw [hs]
    intro i hi
    have hi : i < len := hi
    refine ⟨hc i (by omega), ?_⟩
    have hm : zs.getD i 0 ∈ zs := by
      rw [List.getD_eq_getElem?_getD, List.getElem?_eq_getElem (by omega)]
      exact List.getElem_mem _
    have := hr _ hm
    simp [Lit.wf, IntKind.min, IntKind.max, IntKind.signed, IntKind.bits] at this ⊢
    omega
  have run : ∀ {l : List V} {j0 : Nat} {s0 : SE}, bdL hR.n.toNat l → j0 < n1 → initFr l (fun fr => zIn qC.z0 ⟨inK, 4, 20000⟩ fr hR ⟨fxL, []⟩ (fun fr h fa => zIn qC.z1 ⟨inK, 4, 20000⟩ fr h fa (fun fr h _ => nextK st1 [(2 * j0, sgW kp (some (.lit 0)) s0), (2 * j0 + 1, sgW kp (some (.lit 0)) s0)] fr h) (kLoop qC.z2 ⟨inK, 4, 20000⟩ st2 [] (zOut qC.z0 ⟨inK, 4, 20000⟩ (koB qC.rs)))) (koB qC.rs)) = 0 →
      Calls Tryz.prog 4 (γL E (fun _ => ⟨(E.s 0).b, 0⟩) l).toArray W fun e w' => e = .returned (.bool true) ∧ Below W.heap.size W w' :=
    fun hl hj hin => order_E E W hX (by rw [hs]; exact hW) (by rw [hs]) (by rw [hs, h1]) hD hl hj hin
  have := run (l := argsR0) ⟨show (1 : Nat) < 2 by decide, ⟨trivial, trivial, trivial, trivial, trivial⟩, ⟨trivial, trivial, trivial, trivial, trivial⟩, trivial⟩ (by decide) r_in0
  have hargs : (γL E (fun _ => ⟨(E.s 0).b, 0⟩) argsR0).toArray = #[.slice (some ⟨b, off, none⟩) len cap, .agg ((List.range 4).map (fun i => Value.int .i64 (a1 i))).toArray, .agg ((List.range 4).map (fun i => Value.int .u64 (a2 i))).toArray] := by
    rw [hE]
    rfl
  rw [hargs] at this
  exact this
theorem nil_any (W : World) (a1 : Nat → Int) (b1 : ∀ i, i < 4 → -9223372036854775808 ≤ a1 i ∧ a1 i ≤ 9223372036854775807) (a2 : Nat → Int) (b2 : ∀ i, i < 4 → 0 ≤ a2 i ∧ a2 i ≤ 18446744073709551615) :
    Calls Tryz.prog 4 #[.slice none 0 0, .agg ((List.range 4).map (fun i => Value.int .i64 (a1 i))).toArray, .agg ((List.range 4).map (fun i => Value.int .u64 (a2 i))).toArray] W fun e w' => e = .returned (.bool true) ∧ Below W.heap.size W w' := by
  obtain ⟨E, hE⟩ : ∃ E : Env, E = ⟨fun i => if 20 ≤ i ∧ i < 24 then a1 (i - 20) else if 24 ≤ i ∧ i < 28 then a2 (i - 24) else if i = 31 then pickI (a1 1) 1000 else if i = 32 then pickI (a1 2) 1000 else if i = 33 then pickI (a1 3) 1000 else 0, fun _ => false, fun _ => ⟨0, 0, 0, 0, 0, 0, 0, #[], (0, 0)⟩⟩ := ⟨_, rfl⟩
  have hX : X E := by
    rw [hE]
    exact ⟨fun i g1 g2 => by show -9223372036854775808 ≤ (if 20 ≤ i ∧ i < 24 then a1 (i - 20) else _) ∧ (if 20 ≤ i ∧ i < 24 then a1 (i - 20) else _) ≤ _; rw [if_pos (by omega)]; exact b1 (i - 20) (by omega), rfl, rfl, rfl⟩
  have := law_of_run (nilK_ok hX) (fa_all (fx_ok E hX)) r_nil0 (l := argsN0) ⟨trivial, ⟨trivial, trivial, trivial, trivial, trivial⟩, ⟨trivial, trivial, trivial, trivial, trivial⟩, trivial⟩ W
  have hargs : (γL E (fun _ => ⟨0, 0⟩) argsN0).toArray = #[.slice none 0 0, .agg ((List.range 4).map (fun i => Value.int .i64 (a1 i))).toArray, .agg ((List.range 4).map (fun i => Value.int .u64 (a2 i))).toArray] := by
    rw [hE]
    rfl
  rw [hargs] at this
  exact this
theorem cells_of_has {P : Program} {w : World} {r : Reach} {base : Nat} {a : Addr} {e : TypeId} {n : Nat} (h : w.has P r base a e n) : ∃ b off cs t fz, a = ⟨b, off, none⟩ ∧ w.heap[b]? = some (.cells cs t fz) := by
  obtain ⟨_, h2, row, cells, h3, _⟩ := h
  obtain ⟨b, off, sp⟩ := a
  have h2 : sp = none := h2
  subst h2
  unfold World.shape? at h3
  split at h3
  · rename_i c el fr hh
    exact ⟨b, off, c, el, fr, rfl, hh⟩
  · cases h3
theorem mapM_words {H : Type} {enc : TypeId × Value → H} {P : Program} {e : TypeId} {q : IntKind} {W : World} {base : Nat} {sp : Nat → Bool} {held : Bool} (he : P.underlying e = some (.int q)) {m : Nat} {cs : List Value} :
    ∀ (L : List Nat) (xs : List (DataW H × List MemPlace)), L.mapM (fun i => DataW.trod enc P W base sp held m e ((cs.drop (i * 1)).take 1)) = some xs → ∀ i ∈ L, ∃ a : Int, cs[i]? = some (.int q a) ∧ (Lit.int q a).wf = true
  | [], xs, h, i, hi => by cases hi
  | j :: L, xs, h, i, hi => by
    rw [List.mapM_cons] at h
    simp only [bind, Option.bind_eq_some_iff, pure, Option.some.injEq] at h
    obtain ⟨y, hy, ys, hys, rfl⟩ := h
    rcases List.mem_cons.1 hi with rfl | hi
    · obtain ⟨a, ea, _, wa⟩ := DataW.trod_int he hy
      refine ⟨a, ?_, wa⟩
      have : ((cs.drop (i * 1)).take 1)[0]? = some (.int q a) := by rw [ea]; rfl
      rw [List.getElem?_take] at this
      simpa using this
    · exact mapM_words he L ys hys i hi
theorem open_words {H : Type} {enc : TypeId × Value → H} {P : Program} {k e : TypeId} {n : Nat} {q : IntKind} {W : World} {base : Nat} {sp : Nat → Bool} {held : Bool} (hu : P.underlying k = some (.array n e)) (hone : P.cellsOf e = 1) (hsize : P.cellsOf k = n)
    (he : P.underlying e = some (.int q)) {r : Reach} {b0 : Nat} {v : Value} (hv : Value.okWide P W r b0 k v) {d : DataW H} {ps : List MemPlace} (hd : DataW.Trod enc P W base sp held k v d ps) :
    ∃ f : Nat → Int, v = .agg ((List.range n).map (fun i => Value.int q (f i))).toArray ∧ ∀ i, i < n → (Lit.int q (f i)).wf = true := by
  obtain ⟨xs, rfl, hn⟩ : ∃ xs : Array Value, v = .agg xs ∧ xs.size = n := by
    simp only [Value.okWide, hu] at hv
    obtain ⟨cs, h1, h2, _⟩ := hv
    exact ⟨cs, h1, by rw [h2, hsize]⟩
  obtain ⟨fuel, hf⟩ := hd
  cases fuel with
  | zero => simp [DataW.trod] at hf
  | succ m =>
    rw [DataW.trod_step] at hf
    unfold DataW.trodStep at hf
    simp only [hu, Value.cells] at hf
    rw [if_pos (by rw [hsize]; simpa using hn)] at hf
    simp only [Option.map_eq_some_iff] at hf
    obtain ⟨ys, hy, _⟩ := hf
    rw [hone] at hy
    have hall := mapM_words he _ ys hy
    have h1 : ∀ i, i < n → ∃ a : Int, xs.toList[i]? = some (.int q a) ∧ (Lit.int q a).wf = true := fun i hi => hall i (by simpa using hi)
    refine ⟨fun i => if h : i < n then (h1 i h).choose else 0, ?_, fun i hi => by simp only [hi, dif_pos]; exact (h1 i hi).choose_spec.2⟩
    congr 1
    apply Array.toList_inj.1
    apply List.ext_getElem?
    intro i
    by_cases hi : i < n
    · rw [(h1 i hi).choose_spec.1]
      simp [List.getElem?_map, List.getElem?_range, hi]
    · rw [List.getElem?_eq_none (by simp; omega), List.getElem?_eq_none (by simp; omega)]
theorem own : ownKnob Tryz.prog.godebug = none := by kernel_rfl
theorem laidOut : laidOutB Tryz.prog = true := by kernel_rfl
set_option maxRecDepth 100000 in
theorem contract (H : Type) (enc : TypeId × Value → H) (W : World) (base : Nat) (args : Array Value) (ds gs : List (DataW H)) (before : List MemPlace)
    (hval0 : ∀ (j : Nat) t v, Tryz.f4.params[j]? = some t → args[j]? = some v → Value.okWide Tryz.prog W .any base t v)
    (hW : DataW.Whole enc Tryz.prog Tryz.f4.params.toList Rows.ipcOrderSpec.vars false W args.toList ds gs before) :
    Calls Tryz.prog 4 args W fun e W' => ∃ v, e = .returned v ∧ Rows.ipcOrderSpec.post enc Tryz.prog Tryz.f4 false true false false W args v W' := by
  have hval := hval0
  have hW' := hW
  obtain ⟨p, q, hA0, hV, rfl, hfz, hnd⟩ := hW
  have hA : DataW.TrodAll enc Tryz.prog W 0 (fun _ => true) true Tryz.f4.params.toList args.toList ds p := hA0
  rw [Tryz.params4] at hA hval
  obtain ⟨v0, vs0, d0, ds0, p0, q0, hargs, rfl, rfl, h0, r0⟩ := trodAll_cons hA
  obtain ⟨v1, vs1, d1, ds1, p1, q1, rfl, rfl, rfl, h1, r1⟩ := trodAll_cons r0
  obtain ⟨v2, vs2, d2, ds2, p2, q2, rfl, rfl, rfl, h2, r2⟩ := trodAll_cons r1
  obtain ⟨rfl, rfl, rfl⟩ := trodAll_nil r2
  obtain rfl : args = #[v0, v1, v2] := by cases args; simp_all
  obtain ⟨a1, rfl, w1⟩ := open_words Tryz.underlying49 (by kernel_rfl) (by kernel_rfl) Tryz.underlying3 (hval 1 49 v1 rfl rfl) h1
  have b1 : ∀ i, i < 4 → -9223372036854775808 ≤ a1 i ∧ a1 i ≤ 9223372036854775807 := fun i hi => by have := w1 i hi; simp [Lit.wf, IntKind.min, IntKind.max, IntKind.signed, IntKind.bits] at this; omega
  obtain ⟨a2, rfl, w2⟩ := open_words Tryz.underlying50 (by kernel_rfl) (by kernel_rfl) Tryz.underlying37 (hval 2 50 v2 rfl rfl) h2
  have b2 : ∀ i, i < 4 → 0 ≤ a2 i ∧ a2 i ≤ 18446744073709551615 := fun i hi => by have := w2 i hi; simp [Lit.wf, IntKind.min, IntKind.max, IntKind.signed, IntKind.bits] at this; omega
  obtain ⟨rfl, rfl⟩ := trodVars_none hV
  have hrun : Calls Tryz.prog 4 #[v0, .agg ((List.range 4).map (fun i => Value.int .i64 (a1 i))).toArray, .agg ((List.range 4).map (fun i => Value.int .u64 (a2 i))).toArray] W fun e w' => e = .returned (.bool true) ∧ Below W.heap.size W w' := by
    have hv := hval 0 22 _ rfl rfl
    obtain ⟨a0, len0, cap0, rfl⟩ := okWide_slice Tryz.underlying22 hv
    obtain ⟨fuel, hf⟩ := h0
    have hc1 : Tryz.prog.cellsOf 3 = 1 := by kernel_rfl
    rcases open_ints Tryz.underlying22 Tryz.underlying3 hc1 hf with ⟨he, _⟩ | ⟨ad, len, cap, zs, he, _, hlc, _, hzl, _, hcell, hwf⟩
    · simp only [Value.cells] at he
      injection he with he _
      injection he with e1 e2 e3
      subst e1; subst e2; subst e3
      exact nil_any W a1 b1 a2 b2
    · simp only [Value.cells] at he
      injection he with he _
      injection he with e1 e2 e3
      subst e1; subst e2; subst e3
      have hh : W.has Tryz.prog .any base ad 3 cap0 := by
        unfold Value.okWide at hv
        rw [Tryz.underlying22] at hv
        simp only [Cell.okWide] at hv
        rw [Tryz.underlying22] at hv
        simp only [Cell.ok] at hv
        rw [Tryz.underlying22] at hv
        exact hv.2.2
      obtain ⟨b, off, cs, t, fz, rfl, hb⟩ := cells_of_has hh
      refine arr_any W a1 b1 a2 b2 hb (zs := zs) (by rw [hzl]; simp; omega) (fun i hi => ?_) hwf
      have := hcell i hi
      rw [addr_add] at this
      simpa [World.cell?, hb] using this
  refine hrun.mono fun e W' ⟨he, hk⟩ => ?_
  subst he
  refine ⟨_, rfl, law_post laidOut ?_ rfl rfl Tryz.underlying4 hW' hk rfl⟩
  rw [Tryz.params4]
  intro t ht
  simp only [List.mem_cons, List.not_mem_nil, or_false] at ht
  rcases ht with rfl | rfl | rfl
  all_goals exact ⟨by kernel_rfl, of_decide_eq_true (by kernel_rfl)⟩
set_option maxRecDepth 100000 in
theorem lifted (os : Os) (started : os.Started) (H : Type) (enc : TypeId × Value → H) :
    ReturnsInHanded {} Tryz.checked os 4 .any (Rows.ipcOrderSpec.pre6 enc Tryz.prog Tryz.f4 Rows.ipcOrderRow.domain false) (Rows.ipcOrderSpec.post enc Tryz.prog Tryz.f4 false true false false) := by
  refine returnsInHanded_of_change (C := Tryz.checked) own started (by kernel_rfl) Tryz.func4
    (ChangeSpec.witness6 (enc := enc) (C := Tryz.checked) false ⟨#[], #[.slice none 0 0, .agg (Array.replicate 4 (.int .i64 0)), .agg (Array.replicate 4 (.int .u64 0))], []⟩ 8 (by kernel_rfl) (by kernel_rfl) (by kernel_rfl) (by kernel_rfl)) ?_
  intro W base args ds gs before hval0 hW hcnd _
  exact contract H enc W base args ds gs before hval0 hW
set_option maxRecDepth 1000000 in
theorem said : Rows.IpcOrderSaid :=
  OpenClaim.holds_of_wide 4 Tryz.f4 rfl rfl rfl rfl rfl rfl rfl ⟨rfl, rfl, rfl, rfl, rfl⟩ rfl rfl rfl rfl rfl (by kernel_rfl) Tryz.func4 (by kernel_rfl)
    (of_decide_eq_true (by kernel_rfl)) (by unfold Func.isWrapper; first | (rw [if_pos (by decide +kernel)]; kernel_rfl) | (rw [if_neg (by decide +kernel)]; exact ⟨rfl, rfl⟩))
    (fun os started H enc _ => lifted os started H enc)
#print axioms said
end Go.Proofs.YtedbnfdmeigabaaGreat
end
