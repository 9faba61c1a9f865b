/-
 Which case an act is; what it does then.
-/
import Derived.Test.YtkecfebodpkamaaGreatMT
import Derived.Test.YtkecfebodpkamaaGreatMA
import Derived.Test.YtkecfebodpkamaaGreatMU
set_option linter.unusedSimpArgs false
set_option linter.unusedVariables false
set_option maxRecDepth 100000
noncomputable section
namespace Go.Ev.X
open Go Go.Ev Go.Proofs
variable {E : Env} {f f' : Nat → Int} {t : Nat} {d a n : Int} {kp kr : Nat}
structure EnvA (E : Env) (f f' : Nat → Int) (d a n : Int) (kp kr : Nat) : Prop where
 i3 : E.i 3 = d
 i4 : E.i 4 = a
 i7 : E.i 7 = n
 ia : E.i 300 = pickI a 4
 ip : E.i 310 = (kp : Nat)
 ir : E.i 311 = (kr : Nat)
 p : WordsIs (E.s 100).cs 8192 f
 p' : WordsIs (E.s 101).cs 8192 f'
 r : WordsIs (E.s 200).cs 8192 f
 r' : WordsIs (E.s 201).cs 8192 f'
def Live (j : Nat) (E : Env) : Prop := EntsOk PP cP E 100 (esP j) ∧ EntsOk PP cR E 200 (esR j) ∧ PsOk PP E (psA j) ∧ FsOk E (fsA j) ∧ ∃ f', OkW f' ∧ WordsIs (E.s (rpA j)).cs 8192 f' ∧ WordsIs (E.s (rrA j)).cs 8192 f'
def thrN (a : Int) : Nat := 1024 + 64 * (pickI a 4).toNat
theorem thrN_tt (a : Int) : TT (thrN a) := by
 have := pickI_lt (c := a) (n := 4) (by omega)
 unfold thrN TT
 omega
theorem TE_den (e : EnvA E f f' d a n kp kr) : TE.den E = ((thrN a : Nat) : Int) := by
 have := pickI_lt (c := a) (n := 4) (by omega)
 show wrapF .i64 (1024 + wrapF .i64 (64 * E.i 300)) = _
 rw [e.ia, wrapF_eq, wrapF_eq, IntKind.wrap_i64, IntKind.wrap_i64]
 unfold thrN
 omega
theorem noC {E : Env} : CallOk E PP noCall := noCall_ok
theorem pk4_0 : callS cx0 0 noCall 27 [.si .i64 (.v 0), .i .i64 4] ⟨.h, .h, .e⟩ ⟨[(.cmp .lss (.v 0) (.lit 0), false)], []⟩ (endV (.si .i64 (.op .rem .i64 (.v 0) (.lit 4)))) = 0 := by decide +kernel
theorem pk4_1 : callS cx0 0 noCall 27 [.si .i64 (.v 0), .i .i64 4] ⟨.h, .h, .e⟩ ⟨[(.cmp .lss (.v 0) (.lit 0), true)], []⟩ (endV (.si .i64 (.op .rem .i64 (.op .sub .i64 (.lit 0) (.op .add .i64 (.v 0) (.lit 1))) (.lit 4)))) = 0 := by decide +kernel
theorem pk3_0 : callS cx0 0 noCall 27 [.si .i64 (.v 0), .i .i64 3] ⟨.h, .h, .e⟩ ⟨[(.cmp .lss (.v 0) (.lit 0), false)], []⟩ (endV (.si .i64 (.op .rem .i64 (.v 0) (.lit 3)))) = 0 := by decide +kernel
theorem pk3_1 : callS cx0 0 noCall 27 [.si .i64 (.v 0), .i .i64 3] ⟨.h, .h, .e⟩ ⟨[(.cmp .lss (.v 0) (.lit 0), true)], []⟩ (endV (.si .i64 (.op .rem .i64 (.op .sub .i64 (.lit 0) (.op .add .i64 (.v 0) (.lit 1))) (.lit 3)))) = 0 := by decide +kernel
def I64 (x : Int) : Prop := -9223372036854775808 ≤ x ∧ x ≤ 9223372036854775807
theorem pk4 (e : EnvA E f f' d a n kp kr) (ha : I64 a) : PEntOk PP E ⟨27, [.si .i64 (.v 4), .i .i64 4], .si .i64 (.v 300)⟩ :=
 ⟨trivial, Tryz.call27, fun ρ w => by
  have := pick_c (P := PP) (fun _ => rowF 0 f) (fun E _ => hC0 E) (fun E _ => noC) pk4_0 pk4_1 ha w
  refine (show Calls PP 27 (γL E ρ [.si .i64 (.v 4), .i .i64 4]).toArray w _ from ?_)
  have hargs : (γL E ρ [.si .i64 (.v 4), .i .i64 4]).toArray = #[.int .i64 a, .int .i64 4] := by simp only [γL, V.γ, SE.den, e.i4]
  rw [hargs]
  refine this.mono ?_
  rintro ex w' ⟨rfl, hb⟩
  refine ⟨?_, hb⟩
  simp only [V.γ, SE.den, e.ia]⟩
theorem pk3 (e : EnvA E f f' d a n kp kr) (hn : I64 n) {m : Int} (hm : pickI n 3 = m) : PEntOk PP E ⟨27, [.si .i64 (.v 7), .i .i64 3], .i .i64 m⟩ :=
 ⟨trivial, Tryz.call27, fun ρ w => by
  have := pick_c (P := PP) (fun _ => rowF 0 f) (fun E _ => hC0 E) (fun E _ => noC) pk3_0 pk3_1 hn w
  refine (show Calls PP 27 (γL E ρ [.si .i64 (.v 7), .i .i64 3]).toArray w _ from ?_)
  have hargs : (γL E ρ [.si .i64 (.v 7), .i .i64 3]).toArray = #[.int .i64 n, .int .i64 3] := by simp only [γL, V.γ, SE.den, e.i7]
  rw [hargs]
  refine this.mono ?_
  rintro ex w' ⟨rfl, hb⟩
  refine ⟨?_, hb⟩
  rw [hm]; rfl⟩
theorem eq3 {k : Int} (h : E.i 3 = k) : (SB.cmp .eql (.v 3) (.lit k)).den E = true := by
 show iEq (E.i 3) k = true
 rw [iEq_eq]; exact decide_eq_true h
theorem ne3 {k : Int} (h : E.i 3 ≠ k) : (SB.cmp .eql (.v 3) (.lit k)).den E = false := by
 show iEq (E.i 3) k = false
 rw [iEq_eq]; exact decide_eq_false h
theorem fsN_ok : ∀ {m : Nat}, (∀ i : Nat, 1 ≤ i → i ≤ m → E.i 3 ≠ (i : Int)) → FsOk E (fsN m)
 | 0, _ => trivial
 | m + 1, h => ⟨ne3 (h (m + 1) (by omega) (by omega)), fsN_ok fun i h1 h2 => h i h1 (by omega)⟩
theorem choose (h : OkW f) (hd : I64 d) (ha : I64 a) (hn : I64 n) : ∃ j f' kp kr, 1 ≤ j ∧ j ≤ 10 ∧ ∀ E, EnvA E f f' d a n kp kr → Live j E := by
 have go : ∀ {j Fp Fr : Nat} {args : List Value} {ret : Value}, (∃ f', Both Fp Fr args f ret f') → 1 ≤ j → j ≤ 10 → stays j = false → (∃ ep er : Ent, esP j = [ep] ∧ esR j = [er] ∧ ep.F = Fp ∧ er.F = Fr ∧ ep.q' = 101 ∧ er.q' = 201 ∧ ep.k = .v 310 ∧ er.k = .v 311 ∧
   (∀ E f' kp kr, EnvA E f f' d a n kp kr → (∀ ρ, γL E ρ ep.l = args ∧ γL E ρ er.l = args ∧ ep.v.γ E ρ = ret ∧ er.v.γ E ρ = ret) ∧ PsOk PP E (psA j) ∧ FsOk E (fsA j))) → ∃ j f' kp kr, 1 ≤ j ∧ j ≤ 10 ∧ ∀ E, EnvA E f f' d a n kp kr → Live j E := by
  intro j Fp Fr args ret hb h1 h2 hst ⟨ep, er, e1, e2, e3, e4, e5, e6, e7, e8, hall⟩
  obtain ⟨f', hok, ⟨kp, p1, cp⟩, ⟨kr, r1, cr⟩⟩ := hb
  refine ⟨j, f', kp, kr, h1, h2, fun E e => ?_⟩
  obtain ⟨hg, hps, hfs⟩ := hall E f' kp kr e
  have hp : rpA j = 101 := by unfold rpA; rw [hst]; rfl
  have hr : rrA j = 201 := by unfold rrA; rw [hst]; rfl
  refine ⟨?_, ?_, hps, hfs, f', hok, by rw [hp]; exact e.p', by rw [hr]; exact e.r'⟩
  ·rw [e1]; subst e3
   exact ⟨ent_g e.p (by rw [e5]; exact e.p') cp p1 (by rw [e7]; exact e.ip) (fun ρ => (hg ρ).1) (fun ρ => (hg ρ).2.2.1), trivial⟩
  ·rw [e2]; subst e4
   exact ⟨ent_g e.r (by rw [e6]; exact e.r') cr r1 (by rw [e8]; exact e.ir) (fun ρ => (hg ρ).2.1) (fun ρ => (hg ρ).2.2.2), trivial⟩
 have no : ∀ {j : Nat}, 1 ≤ j → j ≤ 10 → stays j = true → esP j = [] → esR j = [] → (∀ E f' kp kr, EnvA E f f' d a n kp kr → PsOk PP E (psA j) ∧ FsOk E (fsA j)) → ∃ j f' kp kr, 1 ≤ j ∧ j ≤ 10 ∧ ∀ E, EnvA E f f' d a n kp kr → Live j E := by
  intro j h1 h2 hst e1 e2 hall
  refine ⟨j, f, 1, 1, h1, h2, fun E e => ?_⟩
  obtain ⟨hps, hfs⟩ := hall E f 1 1 e
  have hp : rpA j = 100 := by unfold rpA; rw [hst]; rfl
  have hr : rrA j = 200 := by unfold rrA; rw [hst]; rfl
  exact ⟨by rw [e1]; trivial, by rw [e2]; trivial, hps, hfs, f, h, by rw [hp]; exact e.p, by rw [hr]; exact e.r⟩
 by_cases d1 : d = 1
 ·exact go (j := 1) (wake_b h (thrN_tt a)) (by omega) (by omega) rfl ⟨_, _, rfl, rfl, rfl, rfl, rfl, rfl, rfl, rfl, fun E f' kp kr e => ⟨fun ρ => ⟨arg1 (vsi (TE_den e)), arg1 (vsi (TE_den e)), rfl, rfl⟩, ⟨pk4 e ha, trivial⟩, ⟨eq3 (by rw [e.i3]; exact d1), trivial⟩⟩⟩
 by_cases d2 : d = 2
 ·have hlt := pickI_lt (c := n) (n := 3) (by omega)
  have hfs : ∀ {E f' kp kr}, EnvA E f f' d a n kp kr → FsOk E ((.cmp .eql (.v 3) (.lit 2), true) :: fsN 1) := fun e => ⟨eq3 (by rw [e.i3]; exact d2), fsN_ok fun i h1 h2 => by rw [e.i3]; omega⟩
  have hc : pickI n 3 = 0 ∨ pickI n 3 = 1 ∨ pickI n 3 = 2 := by omega
  rcases hc with hc | hc | hc
  ·exact go (j := 2) (stop0_b h (thrN_tt a)) (by omega) (by omega) rfl ⟨_, _, rfl, rfl, rfl, rfl, rfl, rfl, rfl, rfl, fun E f' kp kr e => ⟨fun ρ => ⟨arg2 (vsi (TE_den e)) rfl, arg2 (vsi (TE_den e)) rfl, rfl, rfl⟩, ⟨pk4 e ha, pk3 e hn hc, trivial⟩, hfs e⟩⟩
  ·exact go (j := 3) (stop4_b h (thrN_tt a)) (by omega) (by omega) rfl ⟨_, _, rfl, rfl, rfl, rfl, rfl, rfl, rfl, rfl, fun E f' kp kr e => ⟨fun ρ => ⟨arg2 (vsi (TE_den e)) rfl, arg2 (vsi (TE_den e)) rfl, rfl, rfl⟩, ⟨pk4 e ha, pk3 e hn hc, trivial⟩, hfs e⟩⟩
  ·exact no (j := 4) (by omega) (by omega) rfl rfl rfl fun E f' kp kr e => ⟨⟨pk4 e ha, pk3 e hn hc, trivial⟩, hfs e⟩
 by_cases d3 : d = 3
 ·exact go (j := 5) (yield_b h) (by omega) (by omega) rfl ⟨_, _, rfl, rfl, rfl, rfl, rfl, rfl, rfl, rfl, fun E f' kp kr e => ⟨fun ρ => ⟨rfl, rfl, rfl, rfl⟩, ⟨pk4 e ha, trivial⟩, ⟨eq3 (by rw [e.i3]; exact d3), fsN_ok fun i h1 h2 => by rw [e.i3]; omega⟩⟩⟩
 by_cases d4 : d = 4
 ·exact go (j := 6) (tick_b h) (by omega) (by omega) rfl ⟨_, _, rfl, rfl, rfl, rfl, rfl, rfl, rfl, rfl, fun E f' kp kr e => ⟨fun ρ => ⟨rfl, rfl, rfl, rfl⟩, ⟨pk4 e ha, trivial⟩, ⟨eq3 (by rw [e.i3]; exact d4), fsN_ok fun i h1 h2 => by rw [e.i3]; omega⟩⟩⟩
 by_cases d5 : d = 5
 ·have h5 : ∀ {E f' kp kr}, EnvA E f f' d a n kp kr → (SB.cmp .eql (.v 3) (.lit 5)).den E = true := fun e => eq3 (by rw [e.i3]; exact d5)
  have hfs : ∀ {E f' kp kr}, EnvA E f f' d a n kp kr → FsOk E (fsN 4) := fun e => fsN_ok fun i h1 h2 => by rw [e.i3]; omega
  by_cases n0 : n < 0
  ·exact no (j := 8) (by omega) (by omega) rfl rfl rfl fun E f' kp kr e => ⟨⟨pk4 e ha, trivial⟩, h5 e, f_lt (show E.i 7 < 0 by rw [e.i7]; exact n0), f_gen (show E.i 7 < 0 by rw [e.i7]; exact n0), hfs e⟩
  by_cases n1 : 255 < n
  ·exact no (j := 9) (by omega) (by omega) rfl rfl rfl fun E f' kp kr e => ⟨⟨pk4 e ha, trivial⟩, h5 e, f_ltn (show 0 ≤ E.i 7 by rw [e.i7]; omega), f_ge (show 0 ≤ E.i 7 by rw [e.i7]; omega), f_gt (show 255 < E.i 7 by rw [e.i7]; exact n1), f_ge (show 256 ≤ E.i 7 by rw [e.i7]; omega), hfs e⟩
  ·exact go (j := 7) (pr_b h (thrN_tt a) (p := n) (by omega)) (by omega) (by omega) rfl ⟨_, _, rfl, rfl, rfl, rfl, rfl, rfl, rfl, rfl, fun E f' kp kr e => ⟨fun ρ => ⟨arg2 (vsi (TE_den e)) (vsi e.i7), arg2 (vsi (TE_den e)) (vsi e.i7), rfl, rfl⟩, ⟨pk4 e ha, trivial⟩, ⟨h5 e, hfs e⟩⟩⟩
 ·exact go (j := 10) (settle_b h) (by omega) (by omega) rfl ⟨_, _, rfl, rfl, rfl, rfl, rfl, rfl, rfl, rfl, fun E f' kp kr e => ⟨fun ρ => ⟨rfl, rfl, rfl, rfl⟩, ⟨pk4 e ha, trivial⟩, fsN_ok fun i h1 h2 => by rw [e.i3]; omega⟩⟩
end Go.Ev.X
end
/-
 Laws that do what a list says: from one act to the next.
-/
set_option linter.unusedSimpArgs false
set_option linter.unusedVariables false
set_option maxRecDepth 100000
noncomputable section
namespace Go.Ev.X
open Go Go.Ev Go.Proofs
variable {E : Env} {f f' : Nat → Int}
theorem okw0 : OkW f0 := ⟨_, _, _, S0, fun t ht => by rw [P0_sl ht]; omega⟩
structure RowA (r : Row) (D : Nat → Int × Int × Int) : Prop where
 esz : r.esz = 3
 c : ∀ i, i < r.len → r.cs[r.off + i * 3 + 0]? = some (.int .i64 (D i).1) ∧ r.cs[r.off + i * 3 + 1]? = some (.int .i64 (D i).2.1) ∧ r.cs[r.off + i * 3 + 2]? = some (.int .i64 (D i).2.2) ∧ I64 (D i).1 ∧ I64 (D i).2.1 ∧ I64 (D i).2.2
theorem RowA.idx {r : Row} {D : Nat → Int × Int × Int} (h : RowA r D) (k : Nat) : RowA { r with idx := k } D := ⟨h.esz, h.c⟩
def l3 : List V := [.si .i64 (.v 3), .si .i64 (.v 4), .si .i64 (.v 7)]
def row3 (h : H) : Bool := hc h (fun _ _ t => ptAll (fun _ o => match o with
 | .row q z N I l => Nat.beq q 0 && Nat.beq z 3 && SE.beq I (.v 2) && vlBeq l l3
 | _ => true) (fun p => p) t)
theorem row3_ok {h : H} (hr : row3 h = true) (h2 : E.i 2 = (E.s 0).idx) (hl : (E.s 0).idx < (E.s 0).len) {D : Nat → Int × Int × Int} (hD : RowA (E.s 0) D) (h3 : E.i 3 = (D (E.s 0).idx).1) (h4 : E.i 4 = (D (E.s 0).idx).2.1) (h7 : E.i 7 = (D (E.s 0).idx).2.2) : ∀ p o, h.t.get p = some o → RowEl E o := by
 intro p o hp
 unfold row3 at hr
 rw [hc_eq] at hr
 have := ptAll_ok _ _ p o hr hp
 cases o with
 | row q z N I l =>
  simp only [Bool.and_eq_true, Nat.beq_eq] at this
  obtain ⟨⟨⟨rfl, rfl⟩, hI⟩, hl'⟩ := this
  have hI := SE.beq_eq hI
  have hl' := vlBeq_ok hl'
  subst hI; subst hl'
  obtain ⟨c0, c1, c2, _⟩ := hD.c _ hl
  intro _
  refine ⟨h2, hl, rfl, fun ρ i hi => ?_⟩
  have : i = 0 ∨ i = 1 ∨ i = 2 := by
   have : i < 3 := hi
   omega
  rcases this with rfl | rfl | rfl
  ·rw [c0, ← h3]; rfl
  ·rw [c1, ← h4]; rfl
  ·rw [c2, ← h7]; rfl
 | _ => trivial
theorem hA_row : allB (fun j => row3 (hA (j + 1))) (rng 10) = true := by decide +kernel
theorem hA_end : rowU (hA 0) = true := by decide +kernel
def vsA (d a n k : Int) (kp kr : Nat) (i : Nat) : Int := if i = 3 then d else if i = 4 then a else if i = 7 then n else if i = 300 then k else if i = 310 then kp else kr
theorem nxA_s (σ : Sg) (E : Env) (x : Int) (vs : Nat → Int) (rows : Nat → Row) (q : Nat) : (nxA σ E x vs rows).s q = nxS σ E x rows q := rfl
theorem cxA_ok {j : Nat} (h : Live j E) : CxOk E PP (tyOf PP) (cxA j) := by
 obtain ⟨h1, h2, h3, _, f', _, h4, h5⟩ := h
 exact cxM_ok (cxM_ok (hC0 E) h1 (ps_list h3)) h2 (fun e h => by cases h)
theorem inA_ok (c : CallT) (hc : CallOk E PP c) (h1 : WordsIs (E.s 100).cs 8192 f0) (h2 : WordsIs (E.s 200).cs 8192 f0) : CallOk E PP (asRow 9 q2 (.arr 37 8192 13 (.i .u64 0) abt0) (.oa 37 200 8192 13 .nil) (asRow 9 q1377 (.arr 37 8192 13 (.i .u64 0) abt0) (.oa 37 100 8192 13 .nil) (memoS gb (callAx c)))) :=
 asRow_ok (asRow_ok (msR_ok rfl gbo gbt FaOk.nil (call1_ok (lenAll E)) (callAx_ok hc)) rfl (fun ρ L hp h => arr_row abt_u h1 ρ L hp h) (oaNil_bd _ _ _ _)) rfl (fun ρ L hp h => arr_row abt_u h2 ρ L hp h) (oaNil_bd _ _ _ _)
end Go.Ev.X
end
