/-
 ReadyPlays: what an act does, what is asked behind it.
-/
import Derived.Test.YtgaelfnoffejgaaRGa
import Derived.Test.YtgaelfnoffejgaaMH3r
import Derived.Test.YtgaelfnoffejgaaYQ
set_option linter.unusedSimpArgs false
set_option linter.unusedVariables false
set_option maxRecDepth 100000
noncomputable section
namespace Go.Ev.X
open Go Go.Ev Go.Proofs
variable {E : Env} {f f' : Nat → Int} {Q : Nat → List Nat} {t : Nat}
theorem tA_ok4 {ρ : Rho} {b : Nat} {x0 x1 x2 x3 x4 x5 x6 x7 x8 x9 x10 x11 x12 x13 : V} {v : TV} {r : Nat → Int} (h0 : x0.γ E ρ = .int .i64 v.st) (h1 : x1.γ E ρ = .int .i64 v.pr) (h2 : x2.γ E ρ = .int .i64 v.sl) (h3 : x3.γ E ρ = .bool v.q) (h4 : x4.γ E ρ = .int .i64 v.pv) (h5 : x5.γ E ρ = .int .i64 v.nx) (h6 : x6.γ E ρ = .int .i64 v.bl) (h7 : x7.γ E ρ = .int .i64 v.bd) (h8 : x8.γ E ρ = .bool v.g) (h9 : x9.γ E ρ = .bool v.c) (h10 : x10.γ E ρ = .int .i64 v.bo) (h11 : x11.γ E ρ = .int .i64 v.ha) (h12 : x12.γ E ρ = .int .i64 v.fk) (h13 : x13.γ E ρ = .int .i64 v.fa)
  (hr : ∀ j, 14 ≤ j → j < 30 → E.i (b + j) = fldT v r j) : (tA b x0 x1 x2 x3 x4 x5 x6 x7 x8 x9 x10 x11 x12 x13).γ E ρ = thV v r :=
 thG h0 h1 h2 h3 h4 h5 h6 h7 h8 h9 h10 h11 h12 h13 (vsi (hr 14 (by omega) (by omega))) (vsi (hr 15 (by omega) (by omega))) (vsi (hr 16 (by omega) (by omega))) (vsi (hr 17 (by omega) (by omega))) (vsi (hr 18 (by omega) (by omega))) (vsi (hr 19 (by omega) (by omega))) (vsi (hr 20 (by omega) (by omega))) (vsi (hr 21 (by omega) (by omega))) (vsi (hr 22 (by omega) (by omega))) (vsi (hr 23 (by omega) (by omega))) (vsi (hr 24 (by omega) (by omega))) (vsi (hr 25 (by omega) (by omega))) (vsi (hr 26 (by omega) (by omega))) (vsi (hr 27 (by omega) (by omega))) (vsi (hr 28 (by omega) (by omega))) (vsi (hr 29 (by omega) (by omega)))
theorem symP_den {L : List Nat} (h0 : E.i 450 = (L.getD 0 0 : Nat)) (hs : ∀ i j, i < 9 → j < 30 → E.i (800 + 40 * i + j) = fldT (getT f (L.getD i 0)) (regs f (L.getD i 0)) j) (hlk : Lk f 0 L 0) : ∀ {i : Nat}, i < 9 → i < L.length → (symP i).den E = (L.getD i 0 : Nat)
 | 0, _, _ => h0
 | i + 1, h1, h2 => by
  have := hs i 5 (by omega) (by omega)
  show E.i (805 + 40 * i) = _
  rw [show 805 + 40 * i = 800 + 40 * i + 5 from by omega, this]
  exact lk_nx hlk (by omega)
theorem thrT_ents {c : MC} (hN : c.N = 2048) {F b : Nat} {L : List Nat} (hc : ∀ x ∈ L, MemC PP c F [.int .i64 x] f (.tuple #[thV (getT f x) (regs f x), .int .i64 0]) f 20) (hn : L.length ≤ 8) (hrow : ∀ q, b ≤ q → q ≤ b + 11 → WordsIs (E.s q).cs 2048 f) (h0 : E.i 450 = (L.getD 0 0 : Nat)) (hs : ∀ i j, i < 9 → j < 30 → E.i (800 + 40 * i + j) = fldT (getT f (L.getD i 0)) (regs f (L.getD i 0)) j) (hlk : Lk f 0 L 0) :
  ∀ (m i : Nat), i + m = L.length → EntsOk PP c E (b + 3 + i) ((rngF i m).map (thrT F b L.length))
 | 0, i, h => trivial
 | m + 1, i, h => by
  have hi : i < L.length := by omega
  have hmem := getD_mem hi
  have hsd := symP_den h0 hs hlk (i := i) (by omega) hi
  have hfl : ∀ j, j < 30 → E.i (800 + j + 40 * i) = fldT (getT f (L.getD i 0)) (regs f (L.getD i 0)) j := fun j hj => by
   rw [show 800 + j + 40 * i = 800 + 40 * i + j from by omega]; exact hs i j (by omega) hj
  refine ⟨?_, thrT_ents hN hc hn hrow h0 hs hlk m (i + 1) (by omega)⟩
  refine ent_g (k := 20) (by rw [hN]; exact hrow _ (by omega) (by omega)) (by rw [hN]; exact hrow _ (show b ≤ b + 4 + i by omega) (show b + 4 + i ≤ b + 11 by omega)) (hc _ hmem) (by omega) rfl (fun ρ => arg1 (vsi hsd)) (fun ρ => tupT (tA_ok (vsi (hfl 0 (by omega))) (vsi (hfl 1 (by omega))) (vsi (hfl 2 (by omega))) (vsb ((sbq (hfl 3 (by omega))))) (vsi (hfl 4 (by omega))) ?_ (vsi (hfl 6 (by omega))) (vsi (hfl 7 (by omega))) (vsb (sbq (hfl 8 (by omega)))) (vsb (sbq (hfl 9 (by omega)))) (vsi (hfl 10 (by omega))) (vsi (hfl 11 (by omega))) (vsi (hfl 12 (by omega))) (vsi (hfl 13 (by omega))) fun j hj => hs i j (by omega) hj))
  have := lk_nx hlk hi
  by_cases e : i + 1 = L.length
  ·rw [show Nat.beq (i + 1) L.length = true by simpa using e]
   show Value.int .i64 0 = _
   rw [this, List.getD_eq_getElem?_getD, List.getElem?_eq_none (by omega)]; rfl
  ·rw [show Nat.beq (i + 1) L.length = false by rw [Bool.eq_false_iff]; simpa using e]
   exact vsi (hfl 5 (by omega))
structure TailE (E : Env) (p hv : Int) (kh k8 : Nat) (L : List Nat) (f : Nat → Int) : Prop where
 i15 : E.i 15 = p
 i302 : E.i 302 = hv
 i311 : E.i 311 = (kh : Nat)
 i318 : E.i 318 = (k8 : Nat)
 i450 : E.i 450 = (L.getD 0 0 : Nat)
 i8 : ∀ i j, i < 9 → j < 30 → E.i (800 + 40 * i + j) = fldT (getT f (L.getD i 0)) (regs f (L.getD i 0)) j
theorem tlX_ok {c : MC} (hN : c.N = 2048) {H F T b d : Nat} {k : SE} {p hv : Int} {kh : Nat} (hk : k.den E = (kh : Nat)) (h1 : 1 ≤ kh) (hH : MemC PP c H [] f (.int .i64 hv) f kh) (i302 : E.i 302 = hv) (i15 : E.i 15 = p) (hrow : ∀ q, b ≤ q → q ≤ b + 11 → WordsIs (E.s q).cs 2048 f)
  (hd : d ≤ 8 → (∀ ρ, ∃ x, (fvT d).γ E ρ = .int .i64 x ∧ MemC PP c F [.int .i64 p] f (.int .i64 x) f 1) ∧ EntsOk PP c E (b + 3 + 0) ((rng d).map (thrT T b d))) : EntsOk PP c E b (tlX H F T k b d) := by
 have hr : ∀ q, b ≤ q → q ≤ b + 11 → WordsIs (E.s q).cs c.N f := by rw [hN]; exact hrow
 refine ⟨ent_g (hr b (by omega) (by omega)) (hr (b + 1) (by omega) (by omega)) hH h1 hk (fun ρ => rfl) (fun ρ => vsi i302), ?_⟩
 by_cases h8 : d ≤ 8
 ·rw [show Nat.ble d 8 = true by rw [Nat.ble_eq]; exact h8]
  obtain ⟨g1, g2⟩ := hd h8
  obtain ⟨x, hx, _⟩ := g1 (fun _ => ⟨0, 0⟩)
  have fv : ∀ ρ, (fvT d).γ E ρ = .int .i64 x ∧ MemC PP c F [.int .i64 p] f (.int .i64 x) f 1 := fun ρ => by
   obtain ⟨y, hy, hm⟩ := g1 ρ
   have : (fvT d).γ E ρ = (fvT d).γ E (fun _ => ⟨0, 0⟩) := by unfold fvT; cases Nat.beq d 0 <;> rfl
   rw [this, hx] at hy
   have : x = y := by injection hy
   subst this
   exact ⟨by rw [‹(fvT d).γ E ρ = _›, hx], hm⟩
  exact ⟨ent_g (k := 1) (hr (b + 1) (by omega) (by omega)) (hr (b + 2) (by omega) (by omega)) (fv fun _ => ⟨0, 0⟩).2 (by omega) rfl (fun ρ => arg1 (vsi i15)) (fun ρ => (fv ρ).1),
   ent_g (k := 1) (hr (b + 1 + 1) (by omega) (by omega)) (hr (b + 3) (by omega) (by omega)) (fv fun _ => ⟨0, 0⟩).2 (by omega) rfl (fun ρ => arg1 (vsi i15)) (fun ρ => (fv ρ).1), g2⟩
 ·rw [show Nat.ble d 8 = false by rw [Bool.eq_false_iff, ne_eq, Nat.ble_eq]; exact h8]
  exact trivial
theorem tail_ex (hf : OkQ f) (p : Int) : ∃ (d kh k8 : Nat) (hv : Int) (L : List Nat), d ≤ 10 ∧ kh ≤ 3 ∧ ∀ (E : Env) (b b' : Nat), TailE E p hv kh k8 L f → (∀ q, b ≤ q → q ≤ b + 11 → WordsIs (E.s q).cs 2048 f) → (∀ q, b' ≤ q → q ≤ b' + 11 → WordsIs (E.s q).cs 2048 f) →
  EntsOk PP cP E b (tlP b d) ∧ EntsOk PP cR E b' (tlR b' d) ∧ FsOk E (fsD d) := by
 obtain ⟨Q, h⟩ := hf
 obtain ⟨o, ho, kh, ⟨p1, u1⟩, c1⟩ := high_p h
 obtain ⟨k8, p8, c8⟩ := high_r h ho
 by_cases hlo : p < 0
 ·refine ⟨9, kh, k8, topH Q o, [], by omega, u1, fun E b b' e hb hb' => ⟨tlX_ok rfl e.i311 p1 c1 e.i302 e.i15 hb fun h => by omega, tlX_ok rfl e.i318 p8 c8 e.i302 e.i15 hb' fun h => by omega, f_eq rfl, f_lt (show E.i 15 < 0 by rw [e.i15]; exact hlo), f_gen (show E.i 15 < 0 by rw [e.i15]; exact hlo), trivial⟩⟩
 by_cases hhi : 255 < p
 ·refine ⟨10, kh, k8, topH Q o, [], by omega, u1, fun E b b' e hb hb' => ⟨tlX_ok rfl e.i311 p1 c1 e.i302 e.i15 hb fun h => by omega, tlX_ok rfl e.i318 p8 c8 e.i302 e.i15 hb' fun h => by omega, f_eq rfl, f_ltn (show 0 ≤ E.i 15 by rw [e.i15]; omega), f_ge (show 0 ≤ E.i 15 by rw [e.i15]; omega), f_ltn (show 256 ≤ E.i 15 by rw [e.i15]; omega), f_gt (show 255 < E.i 15 by rw [e.i15]; omega), trivial⟩⟩
 have hpn : p.toNat < 256 := by omega
 have hpe : ((p.toNat : Nat) : Int) = p := by omega
 obtain ⟨k0, ⟨q0, u0⟩, c0⟩ := fronts_p hpn (q_w64 TT_thr h hpn).1
 have hk0 : k0 = 1 := by omega
 subst hk0
 have c0r := front_r1 hpn (q_w64 TT_thr h hpn).1
 rw [headOf_eq TT_thr h hpn, hpe] at c0 c0r
 obtain ⟨L, hL⟩ : ∃ L, Q p.toNat = L := ⟨_, rfl⟩
 have hel := fun u hu => h.el p.toNat u hpn hu
 have hnd := h.nd _ hpn
 have hlk := h.lk _ hpn
 rw [hL] at c0 c0r hel hnd hlk
 have hTT : ∀ x ∈ L, TT x := fun x hx => (hel x hx).1
 have h8 := len8 hnd hTT
 have hne : ∀ x ∈ L, x ≠ 0 := fun x hx => by have := TT_thr.lo x (hTT x hx); omega
 have hhd : hdN L 0 = L.getD 0 0 := by cases L <;> rfl
 rw [hhd] at c0 c0r
 have hfv : ∀ (E : Env) ρ, E.i 450 = (L.getD 0 0 : Nat) → (fvT L.length).γ E ρ = .int .i64 (L.getD 0 0 : Nat) := fun E ρ i450 => by
  cases L with
  | nil => rfl
  | cons x r => exact vsi i450
 refine ⟨L.length, kh, k8, topH Q o, L, by omega, u1, fun E b b' e hb hb' => ⟨tlX_ok rfl e.i311 p1 c1 e.i302 e.i15 hb fun _ => ⟨fun ρ => ⟨_, hfv E ρ e.i450, c0⟩, ?_⟩, tlX_ok rfl e.i318 p8 c8 e.i302 e.i15 hb' fun _ => ⟨fun ρ => ⟨_, hfv E ρ e.i450, c0r⟩, ?_⟩, ?_⟩⟩
 ·exact thrT_ents rfl (fun x hx => thr_p (hTT x hx) (h.thr x (hTT x hx))) h8 hb e.i450 e.i8 hlk L.length 0 (by omega)
 ·exact thrT_ents rfl (fun x hx => thr_r (hTT x hx) (h.thr x (hTT x hx))) h8 hb' e.i450 e.i8 hlk L.length 0 (by omega)
 ·have key : ∀ i, i < L.length → (symP i).den E ≠ 0 := fun i hi => by
   rw [symP_den e.i450 e.i8 hlk (by omega) hi]
   have := hne _ (getD_mem (L := L) (i := i) hi)
   omega
  have fin : FsOk E ((.cmp .eql (.v 450) (.v 450), true) :: ((rng L.length).map (fun i => (.cmp .neq (symP i) (.lit 0), true)) ++ (rng L.length).map (fun i => (.cmp .neq (symP i) (symP i), false)))) :=
   ⟨f_eq rfl, fs_app (fs_map _ _ fun k h1 h2 => f_ne (key k (by omega))) (fs_map _ _ fun k h1 h2 => f_nen rfl)⟩
  refine ⟨f_eq rfl, ?_⟩
  generalize L.length = n at h8 fin
  match n, h8 with
  | 0, _ => exact trivial
  | 1, _ => exact fin
  | 2, _ => exact fin
  | 3, _ => exact fin
  | 4, _ => exact fin
  | 5, _ => exact fin
  | 6, _ => exact fin
  | 7, _ => exact fin
  | 8, _ => exact fin
structure ActE (E : Env) (w n p tv : Int) (kp k6 k7 : Nat) (f g f' : Nat → Int) : Prop where
 i13 : E.i 13 = w
 i14 : E.i 14 = n
 i15 : E.i 15 = p
 i300 : E.i 300 = tv
 i303 : E.i 303 = lowI p
 i310 : E.i 310 = (kp : Nat)
 i316 : E.i 316 = (k6 : Nat)
 i317 : E.i 317 = (k7 : Nat)
 i13h : ∀ j, j < 30 → E.i (1300 + j) = fldT (getT f tv.toNat) (regs f tv.toNat) j
 p0 : WordsIs (E.s 100).cs 2048 f
 p1 : WordsIs (E.s 101).cs 2048 f'
 r0 : WordsIs (E.s 200).cs 2048 f
 r1 : WordsIs (E.s 201).cs 2048 g
 r2 : WordsIs (E.s 202).cs 2048 f'
def CaseY (c : Nat) (E : Env) : Prop := EntsOk PP cP E 100 (acP c) ∧ EntsOk PP cR E 200 (acR c) ∧ PsOk PP E (psY c) ∧ FsOk E (fsO c) ∧ FsOk E (fsC c)
theorem ps1 {E : Env} {n tv : Int} (hn : I64 n) (h14 : E.i 14 = n) (h300 : E.i 300 = tv) (ht : tcI n = tv) : PEntOk PP E ⟨10, [.si .i64 (.v 14)], vT⟩ :=
 pe1 Try.call10 h14 (y := tv) (fun ρ => vsi h300) trivial fun W => (by rw [← ht]; exact tcb_c hn W)
theorem ps0 {E : Env} {n : Int} (hn : I64 n) (h14 : E.i 14 = n) (ht : tcI n = 1056) : PEntOk PP E ⟨10, [.si .i64 (.v 14)], .i .i64 1056⟩ :=
 pe1 Try.call10 h14 (y := 1056) (fun ρ => rfl) trivial fun W => (by rw [← ht]; exact tcb_c hn W)
theorem fs4 {E : Env} {w : Int} (h : E.i 13 = w) : ∀ (n : Nat), (∀ k : Nat, 1 ≤ k → k ≤ n → w ≠ k) → FsOk E (fsX n)
 | 0, _ => trivial
 | n + 1, hk => ⟨f_eqn (show E.i 13 ≠ ((n + 1 : Nat) : Int) by rw [h]; exact hk (n + 1) (by omega) (by omega)), fs4 h n fun k h1 h2 => hk k h1 (by omega)⟩
theorem fso {E : Env} {w : Int} (h : E.i 13 = w) {c : Nat} (hc : 1 ≤ c ∧ c ≤ 12) (hw : w = (opY c : Nat)) : FsOk E (fsO c) := by
 unfold fsO
 rw [show Nat.ble c 12 = true by rw [Nat.ble_eq]; exact hc.2]
 refine ⟨f_eq (show E.i 13 = ((opY c : Nat) : Int) by rw [h, hw]), fs4 h _ fun k h1 h2 => ?_⟩
 have : Nat.pred (opY c) = opY c - 1 := rfl
 omega
theorem fso13 {E : Env} {w : Int} (h : E.i 13 = w) (hw : w ≠ 1 ∧ w ≠ 2 ∧ w ≠ 3 ∧ w ≠ 4) : FsOk E (fsO 13) :=
 fs4 h 4 fun k h1 h2 => by
  have : k = 1 ∨ k = 2 ∨ k = 3 ∨ k = 4 := by omega
  rcases this with rfl | rfl | rfl | rfl
  ·exact hw.1
  ·exact hw.2.1
  ·exact hw.2.2.1
  ·exact hw.2.2.2
theorem act_ex (hf : OkQ f) {w n p : Int} (hn : I64 n) (hp : I64 p) : ∃ (c kp k6 k7 : Nat) (tv : Int) (g f' : Nat → Int), 1 ≤ c ∧ c ≤ 13 ∧ OkQ f' ∧ kp ≤ 130 ∧ (bP c = 100 → f' = f) ∧ (bR c = 200 → f' = f) ∧ (bR c ≠ 202 → g = f') ∧ (bP c = 100 ∨ bP c = 101) ∧ (bR c = 200 ∨ bR c = 201 ∨ bR c = 202) ∧
  ∀ E, ActE E w n p tv kp k6 k7 f g f' → CaseY c E := by
 have hf0 := hf
 obtain ⟨Q, h⟩ := hf
 by_cases h8 : n % 9 = 8
 ·have ht : tcI n = 1056 := if_pos h8
  by_cases w1 : w = 1
  ·exact ⟨3, 1, 1, 1, 1056, f, f, by omega, by omega, hf0, by omega, fun _ => rfl, fun _ => rfl, fun _ => rfl, .inl rfl, .inl rfl, fun E e => ⟨trivial, trivial, ⟨ps0 hn e.i14 ht, trivial⟩, fso e.i13 (by omega) (by rw [w1]; rfl), trivial⟩⟩
  by_cases w2 : w = 2
  ·exact ⟨6, 1, 1, 1, 1056, f, f, by omega, by omega, hf0, by omega, fun _ => rfl, fun _ => rfl, fun _ => rfl, .inl rfl, .inl rfl, fun E e => ⟨trivial, trivial, ⟨ps0 hn e.i14 ht, trivial⟩, fso e.i13 (by omega) (by rw [w2]; rfl), trivial⟩⟩
  by_cases w3 : w = 3
  ·exact ⟨9, 1, 1, 1, 1056, f, f, by omega, by omega, hf0, by omega, fun _ => rfl, fun _ => rfl, fun _ => rfl, .inl rfl, .inl rfl, fun E e => ⟨trivial, trivial, ⟨ps0 hn e.i14 ht, trivial⟩, fso e.i13 (by omega) (by rw [w3]; rfl), trivial⟩⟩
  by_cases w4 : w = 4
  ·exact ⟨12, 1, 1, 1, 1056, f, f, by omega, by omega, hf0, by omega, fun _ => rfl, fun _ => rfl, fun _ => rfl, .inl rfl, .inl rfl, fun E e => ⟨trivial, trivial, ⟨ps0 hn e.i14 ht, trivial⟩, fso e.i13 (by omega) (by rw [w4]; rfl), trivial⟩⟩
  exact ⟨13, 1, 1, 1, 1056, f, f, by omega, by omega, hf0, by omega, fun _ => rfl, fun _ => rfl, fun _ => rfl, .inl rfl, .inl rfl, fun E e => ⟨trivial, trivial, ⟨ps1 hn e.i14 e.i300 ht, trivial⟩, fso13 e.i13 ⟨w1, w2, w3, w4⟩, trivial⟩⟩
 obtain ⟨t, htd⟩ : ∃ t, t = tcM (n % 9).toNat := ⟨_, rfl⟩
 have hT : TT t := by rw [htd]; exact tcM_tt (by omega)
 have ht : tcI n = (t : Nat) := by rw [htd]; unfold tcI tcM; rw [if_neg h8]; omega
 by_cases wo : w ≠ 1 ∧ w ≠ 2 ∧ w ≠ 3 ∧ w ≠ 4
 ·exact ⟨13, 1, 1, 1, t, f, f, by omega, by omega, hf0, by omega, fun _ => rfl, fun _ => rfl, fun _ => rfl, .inl rfl, .inl rfl, fun E e => ⟨trivial, trivial, ⟨ps1 hn e.i14 e.i300 ht, trivial⟩, fso13 e.i13 wo, trivial⟩⟩
 cases hq : (getT f t).q with
 | false =>
  by_cases w1 : w = 1
  ·obtain ⟨kp, ⟨p1, u1⟩, c1⟩ := push_cp h hT hq
   obtain ⟨k6, p6, c6⟩ := push_cr h hT hq
   exact ⟨1, kp, k6, 1, t, _, _, by omega, by omega, ⟨_, (push_g TT_thr h hT hq).1⟩, by omega, fun h => absurd h (by decide), fun h => absurd h (by decide), fun _ => rfl, .inr rfl, .inr (.inl rfl), fun E e => ⟨⟨ent_g e.p0 e.p1 c1 p1 e.i310 (fun ρ => arg1 (vsi e.i300)) (fun ρ => rfl), trivial⟩, ⟨ent_g e.r0 e.r1 c6 p6 e.i316 (fun ρ => arg2 (vsi e.i300) rfl) (fun ρ => rfl), trivial⟩, ⟨ps1 hn e.i14 e.i300 ht, trivial⟩, fso e.i13 (by omega) (by rw [w1]; rfl), trivial⟩⟩
  by_cases w2 : w = 2
  ·obtain ⟨kp, ⟨p1, u1⟩, c1⟩ := front_cp h hT hq
   obtain ⟨k6, p6, c6⟩ := front_cr h hT hq
   exact ⟨4, kp, k6, 1, t, _, _, by omega, by omega, ⟨_, (pushFront_g TT_thr h hT hq).1⟩, by omega, fun h => absurd h (by decide), fun h => absurd h (by decide), fun _ => rfl, .inr rfl, .inr (.inl rfl), fun E e => ⟨⟨ent_g e.p0 e.p1 c1 p1 e.i310 (fun ρ => arg1 (vsi e.i300)) (fun ρ => rfl), trivial⟩, ⟨ent_g e.r0 e.r1 c6 p6 e.i316 (fun ρ => arg2 (vsi e.i300) rfl) (fun ρ => rfl), trivial⟩, ⟨ps1 hn e.i14 e.i300 ht, trivial⟩, fso e.i13 (by omega) (by rw [w2]; rfl), trivial⟩⟩
  by_cases w3 : w = 3
  ·obtain ⟨kp, ⟨p1, u1⟩, c1⟩ := empty_p h hT hq
   obtain ⟨k6, p6, c6⟩ := empty_r h hT hq
   exact ⟨8, kp, k6, 1, t, _, f, by omega, by omega, hf0, by omega, fun h => absurd h (by decide), fun h => absurd h (by decide), fun _ => rfl, .inr rfl, .inr (.inl rfl), fun E e => ⟨⟨ent_g e.p0 e.p1 c1 p1 e.i310 (fun ρ => arg1 (vsi e.i300)) (fun ρ => rfl), trivial⟩, ⟨ent_g e.r0 e.r1 c6 p6 e.i316 (fun ρ => arg1 (vsi e.i300)) (fun ρ => rfl), trivial⟩, ⟨ps1 hn e.i14 e.i300 ht, trivial⟩, fso e.i13 (by omega) (by rw [w3]; rfl), trivial⟩⟩
  have w4 : w = 4 := by omega
  have hlw : 0 ≤ lowI p ∧ lowI p < 256 := by unfold lowI; omega
  have hv : TV.Right { getT f t with pr := lowI p } := right_pr (getT_right (h.thr t hT)) hlw
  have hq' := chg TT_thr h hT hv rfl rfl rfl (.inr hq)
  refine ⟨10, 20, 20, 20, t, f, setT f t { getT f t with pr := lowI p }, by omega, by omega, ⟨_, hq'⟩, by omega, fun h => absurd h (by decide), fun h => absurd h (by decide), fun h => absurd h (by decide), .inr rfl, .inr (.inr rfl), fun E e => ?_⟩
  have fl : ∀ j, j < 30 → E.i (1300 + j) = fldT (getT f t) (regs f t) j := fun j hj => e.i13h j hj
  have hth : ∀ ρ, thY.γ E ρ = thV { getT f t with pr := lowI p } (regs f t) := fun ρ => tA_ok4 (vsi (fl 0 (by omega))) (vsi e.i303) (vsi (fl 2 (by omega))) (vsb (sbq (fl 3 (by omega)))) (vsi (fl 4 (by omega))) (vsi (fl 5 (by omega))) (vsi (fl 6 (by omega))) (vsi (fl 7 (by omega))) (vsb (sbq (fl 8 (by omega)))) (vsb (sbq (fl 9 (by omega)))) (vsi (fl 10 (by omega))) (vsi (fl 11 (by omega))) (vsi (fl 12 (by omega))) (vsi (fl 13 (by omega))) fun j h1 h2 => (fl j h2).trans (by
   obtain ⟨i, rfl⟩ : ∃ i, j = i + 14 := ⟨j - 14, by omega⟩
   rfl)
  have htD : ∀ ρ, (tD 1300).γ E ρ = thV (getT f t) (regs f t) := fun ρ => tA_ok (vsi (fl 0 (by omega))) (vsi (fl 1 (by omega))) (vsi (fl 2 (by omega))) (vsb (sbq (fl 3 (by omega)))) (vsi (fl 4 (by omega))) (vsi (fl 5 (by omega))) (vsi (fl 6 (by omega))) (vsi (fl 7 (by omega))) (vsb (sbq (fl 8 (by omega)))) (vsb (sbq (fl 9 (by omega)))) (vsi (fl 10 (by omega))) (vsi (fl 11 (by omega))) (vsi (fl 12 (by omega))) (vsi (fl 13 (by omega))) fl
  refine ⟨⟨ent_g (k := 20) e.p0 e.p1 (sth_p hT hv) (by omega) e.i310 (fun ρ => arg2 (vsi e.i300) (hth ρ)) (fun ρ => rfl), trivial⟩, ⟨ent_g (k := 20) e.r0 e.r1 (thr_r hT (h.thr t hT)) (by omega) e.i316 (fun ρ => arg1 (vsi e.i300)) (fun ρ => tupT (htD ρ)), ent_g (k := 20) e.r1 e.r2 (sth_r hT hv) (by omega) e.i317 (fun ρ => arg2 (vsi e.i300) (hth ρ)) (fun ρ => rfl), trivial⟩,
   ⟨ps1 hn e.i14 e.i300 ht, pe1 Try.call17 e.i15 (y := lowI p) (fun ρ => vsi e.i303) trivial fun W => low_c hp W, trivial⟩, fso e.i13 (by omega) (by rw [w4]; rfl), (sbq (fl 3 (by omega))).trans hq, trivial⟩
 | true =>
  by_cases w1 : w = 1
  ·obtain ⟨kp, ⟨p1, u1⟩, c1⟩ := full_p h hT hq
   obtain ⟨k6, p6, c6⟩ := full_r h hT hq false
   exact ⟨2, kp, k6, 1, t, _, f, by omega, by omega, hf0, by omega, fun h => absurd h (by decide), fun h => absurd h (by decide), fun _ => rfl, .inr rfl, .inr (.inl rfl), fun E e => ⟨⟨ent_g e.p0 e.p1 c1 p1 e.i310 (fun ρ => arg1 (vsi e.i300)) (fun ρ => rfl), trivial⟩, ⟨ent_g e.r0 e.r1 c6 p6 e.i316 (fun ρ => arg2 (vsi e.i300) rfl) (fun ρ => rfl), trivial⟩, ⟨ps1 hn e.i14 e.i300 ht, trivial⟩, fso e.i13 (by omega) (by rw [w1]; rfl), trivial⟩⟩
  by_cases w2 : w = 2
  ·obtain ⟨kp, ⟨p1, u1⟩, c1⟩ := frontFull_p h hT hq
   obtain ⟨k6, p6, c6⟩ := full_r h hT hq true
   exact ⟨5, kp, k6, 1, t, _, f, by omega, by omega, hf0, by omega, fun h => absurd h (by decide), fun h => absurd h (by decide), fun _ => rfl, .inr rfl, .inr (.inl rfl), fun E e => ⟨⟨ent_g e.p0 e.p1 c1 p1 e.i310 (fun ρ => arg1 (vsi e.i300)) (fun ρ => rfl), trivial⟩, ⟨ent_g e.r0 e.r1 c6 p6 e.i316 (fun ρ => arg2 (vsi e.i300) rfl) (fun ρ => rfl), trivial⟩, ⟨ps1 hn e.i14 e.i300 ht, trivial⟩, fso e.i13 (by omega) (by rw [w2]; rfl), trivial⟩⟩
  by_cases w3 : w = 3
  ·obtain ⟨kp, ⟨p1, u1⟩, c1⟩ := drop_cp h hT hq
   obtain ⟨k6, p6, c6⟩ := drop_cr h hT hq
   obtain ⟨⟨a, b, hab, q1⟩, _, _⟩ := drop_g TT_thr h hT hq
   exact ⟨7, kp, k6, 1, t, _, _, by omega, by omega, ⟨_, q1⟩, by omega, fun h => absurd h (by decide), fun h => absurd h (by decide), fun _ => rfl, .inr rfl, .inr (.inl rfl), fun E e => ⟨⟨ent_g e.p0 e.p1 c1 p1 e.i310 (fun ρ => arg1 (vsi e.i300)) (fun ρ => rfl), trivial⟩, ⟨ent_g e.r0 e.r1 c6 p6 e.i316 (fun ρ => arg1 (vsi e.i300)) (fun ρ => rfl), trivial⟩, ⟨ps1 hn e.i14 e.i300 ht, trivial⟩, fso e.i13 (by omega) (by rw [w3]; rfl), trivial⟩⟩
  have w4 : w = 4 := by omega
  refine ⟨11, 1, 20, 1, t, f, f, by omega, by omega, hf0, by omega, fun _ => rfl, fun h => rfl, fun h => rfl, .inl rfl, .inr (.inl rfl), fun E e => ?_⟩
  have fl : ∀ j, j < 30 → E.i (1300 + j) = fldT (getT f t) (regs f t) j := fun j hj => e.i13h j hj
  have htD : ∀ ρ, (tD 1300).γ E ρ = thV (getT f t) (regs f t) := fun ρ => tA_ok (vsi (fl 0 (by omega))) (vsi (fl 1 (by omega))) (vsi (fl 2 (by omega))) (vsb (sbq (fl 3 (by omega)))) (vsi (fl 4 (by omega))) (vsi (fl 5 (by omega))) (vsi (fl 6 (by omega))) (vsi (fl 7 (by omega))) (vsb (sbq (fl 8 (by omega)))) (vsb (sbq (fl 9 (by omega)))) (vsi (fl 10 (by omega))) (vsi (fl 11 (by omega))) (vsi (fl 12 (by omega))) (vsi (fl 13 (by omega))) fl
  exact ⟨trivial, ⟨ent_g (k := 20) e.r0 e.r1 (thr_r hT (h.thr t hT)) (by omega) e.i316 (fun ρ => arg1 (vsi e.i300)) (fun ρ => tupT (htD ρ)), trivial⟩, ⟨ps1 hn e.i14 e.i300 ht, trivial⟩, fso e.i13 (by omega) (by rw [w4]; rfl), (sbq (fl 3 (by omega))).trans hq, trivial⟩
end Go.Ev.X
end
