/-
 ReadyRound: the law.
-/
import Derived.Test.YtgaelfnoffejgaaRE
import Derived.Test.YtgaelfnoffejgaaCL
import Derived.Test.YtgaelfnoffejgaaSM20
set_option linter.unusedSimpArgs false
set_option linter.unusedVariables false
set_option maxRecDepth 100000
noncomputable section
namespace Go.Ev.X
open Go Go.Ev Go.Proofs
variable {E : Env} {f f' : Nat → Int} {Q : Nat → List Nat} {t : Nat}
def OkQ (f : Nat → Int) : Prop := ∃ Q, QInv TT f Q
def EOq (n : Nat) (E : Env) : Prop := EntsOk PP cP E 100 (esQ n) ∧ PsOk PP E psQ ∧ ∃ f, WordsIs (E.s (101 + n)).cs 2048 f ∧ WordsIs (E.s (101 + 4 * n)).cs 2048 f
def fQ1 (n : Nat) : List (SB × Bool) := (.cmp .lss (.v 301) (.lit 0), false) :: (.cmp .geq (.v 301) (.lit 0), true) :: (.cmp .lss (.v 301) (.lit 256), true) :: (.cmp .geq (.v 301) (.lit 256), false) :: (.cmp .gtr (.v 301) (.lit 255), false) ::
 ((rng n).map (fun i => (.cmp .neq (symP i) (.lit 0), true)) ++ (rng n).map (fun i => (.cmp .neq (symP i) (symP i), false)))
def vsQ (p : Int) (f : Nat → Int) (L : List Nat) (k0 : Nat) (kk : Nat → Nat × Nat × Nat) (i : Nat) : Int :=
 if i = 301 then p
 else if i = 320 then k0
 else if i < 340 then 20
 else if i < 400 then (if i % 3 = 1 then (kk ((i - 340) / 3)).1 else if i % 3 = 2 then (kk ((i - 340) / 3)).2.1 else (kk ((i - 340) / 3)).2.2)
 else if i = 450 then (L.getD 0 0 : Nat)
 else fldT (getT f (L.getD ((i - 800) / 40) 0)) (regs f (L.getD ((i - 800) / 40) 0)) ((i - 800) % 40)
theorem vsQ_8 {p : Int} {L : List Nat} {k0 : Nat} {kk : Nat → Nat × Nat × Nat} {i j : Nat} (h : j < 30) : vsQ p f L k0 kk (800 + 40 * i + j) = fldT (getT f (L.getD i 0)) (regs f (L.getD i 0)) j := by
 unfold vsQ
 rw [if_neg (by omega), if_neg (by omega), if_neg (by omega), if_neg (by omega), if_neg (by omega), show (800 + 40 * i + j - 800) / 40 = i from by omega, show (800 + 40 * i + j - 800) % 40 = j from by omega]
theorem vsQ_k {p : Int} {L : List Nat} {k0 : Nat} {kk : Nat → Nat × Nat × Nat} {i : Nat} (h : i < 9) : vsQ p f L k0 kk (340 + 3 * i) = (kk i).1 ∧ vsQ p f L k0 kk (341 + 3 * i) = (kk i).2.1 ∧ vsQ p f L k0 kk (342 + 3 * i) = (kk i).2.2 := by
 unfold vsQ
 refine ⟨?_, ?_, ?_⟩
 ·rw [if_neg (by omega), if_neg (by omega), if_neg (by omega), if_pos (by omega), if_pos (by omega), show (340 + 3 * i - 340) / 3 = i from by omega]
 ·rw [if_neg (by omega), if_neg (by omega), if_neg (by omega), if_pos (by omega), if_neg (by omega), if_pos (by omega), show (341 + 3 * i - 340) / 3 = i from by omega]
 ·rw [if_neg (by omega), if_neg (by omega), if_neg (by omega), if_pos (by omega), if_neg (by omega), if_neg (by omega), show (342 + 3 * i - 340) / 3 = i from by omega]
def rowsQ (f : Nat → Int) (L : List Nat) (q : Nat) : Row :=
 if q ≤ 101 + L.length then rowF 2048 f
 else if (q - (102 + L.length)) % 3 = 0 then rowF 2048 (rotF f L ((q - (102 + L.length)) / 3))
 else if (q - (102 + L.length)) % 3 = 1 then rowF 2048 (dropF (rotF f L ((q - (102 + L.length)) / 3)) (L.getD ((q - (102 + L.length)) / 3) 0))
 else rowF 2048 (rotF f L ((q - (102 + L.length)) / 3 + 1))
theorem rowsQ_0 {L : List Nat} {i : Nat} : rowsQ f L (102 + L.length + 3 * i) = rowF 2048 (rotF f L i) := by
 unfold rowsQ
 rw [if_neg (by omega), show 102 + L.length + 3 * i - (102 + L.length) = 3 * i from by omega, if_pos (by omega), show 3 * i / 3 = i from by omega]
theorem rowsQ_1 {L : List Nat} {i : Nat} : rowsQ f L (103 + L.length + 3 * i) = rowF 2048 (dropF (rotF f L i) (L.getD i 0)) := by
 unfold rowsQ
 rw [if_neg (by omega), show 103 + L.length + 3 * i - (102 + L.length) = 3 * i + 1 from by omega, if_neg (by omega), if_pos (by omega), show (3 * i + 1) / 3 = i from by omega]
theorem rowsQ_2 {L : List Nat} {i : Nat} : rowsQ f L (104 + L.length + 3 * i) = rowF 2048 (rotF f L (i + 1)) := by
 unfold rowsQ
 rw [if_neg (by omega), show 104 + L.length + 3 * i - (102 + L.length) = 3 * i + 2 from by omega, if_neg (by omega), if_neg (by omega), show (3 * i + 2) / 3 = i from by omega]
theorem rots_ents (h : QInv TT f Q) {p : Int} (hp : 0 ≤ p ∧ p < 256) {L : List Nat} (hL : Q p.toNat = L) {kk : Nat → Nat × Nat × Nat} (hn : L.length ≤ 8) (h301 : E.i 301 = p)
  (hkk : ∀ i, i < L.length → MemC PP cP 15 [.int .i64 p] (rotF f L i) (.int .i64 (L.getD i 0 : Nat)) (rotF f L i) (kk i).1 ∧ MemC PP cP 12 [.int .i64 (L.getD i 0 : Nat)] (rotF f L i) (.int .i64 0) (dropF (rotF f L i) (L.getD i 0)) (kk i).2.1 ∧ MemC PP cP 11 [.int .i64 (L.getD i 0 : Nat)] (dropF (rotF f L i) (L.getD i 0)) (.int .i64 0) (rotF f L (i + 1)) (kk i).2.2 ∧ 1 ≤ (kk i).1 ∧ 1 ≤ (kk i).2.1 ∧ 1 ≤ (kk i).2.2)
  (hk : ∀ i, i < L.length → E.i (340 + 3 * i) = (kk i).1 ∧ E.i (341 + 3 * i) = (kk i).2.1 ∧ E.i (342 + 3 * i) = (kk i).2.2) (hrow : ∀ q, 101 ≤ q → q < 200 → E.s q = rowsQ f L q) (hsd : ∀ i, i < L.length → (symP i).den E = (L.getD i 0 : Nat)) :
  ∀ (m i : Nat), i + m = L.length → EntsOk PP cP E (101 + L.length + 3 * i) (rotsQ L.length i m)
 | 0, i, hi => trivial
 | m + 1, i, hi => by
  have hi' : i < L.length := by omega
  obtain ⟨c0, c1, c2, g0, g1, g2⟩ := hkk i hi'
  obtain ⟨k0, k1, k2⟩ := hk i hi'
  have r0 : WordsIs (E.s (101 + L.length + 3 * i)).cs 2048 (rotF f L i) := by
   rw [hrow _ (by omega) (by omega)]
   by_cases e : i = 0
   ·subst e
    unfold rowsQ
    rw [if_pos (by omega)]; exact rowF_is _ _
   ·have := rowsQ_2 (f := f) (L := L) (i := i - 1)
    rw [show 104 + L.length + 3 * (i - 1) = 101 + L.length + 3 * i from by omega, show i - 1 + 1 = i from by omega] at this
    rw [this]; exact rowF_is _ _
  have r1 : WordsIs (E.s (102 + L.length + 3 * i)).cs 2048 (rotF f L i) := by
   rw [hrow _ (by omega) (by omega), rowsQ_0]; exact rowF_is _ _
  have r2 : WordsIs (E.s (103 + L.length + 3 * i)).cs 2048 (dropF (rotF f L i) (L.getD i 0)) := by
   rw [hrow _ (by omega) (by omega), rowsQ_1]; exact rowF_is _ _
  have r3 : WordsIs (E.s (104 + L.length + 3 * i)).cs 2048 (rotF f L (i + 1)) := by
   rw [hrow _ (by omega) (by omega), rowsQ_2]; exact rowF_is _ _
  refine ⟨ent_g r0 r1 c0 g0 k0 (fun ρ => arg1 (vsi h301)) (fun ρ => vsi (hsd i hi')), ?_, ?_, ?_⟩
  ·rw [show 101 + L.length + 3 * i + 1 = 102 + L.length + 3 * i from by omega]
   exact ent_g r1 r2 c1 g1 k1 (fun ρ => arg1 (vsi (hsd i hi'))) (fun ρ => rfl)
  ·rw [show 101 + L.length + 3 * i + 1 + 1 = 103 + L.length + 3 * i from by omega]
   exact ent_g r2 r3 c2 g2 k2 (fun ρ => arg1 (vsi (hsd i hi'))) (fun ρ => rfl)
  ·have := rots_ents h hp hL hn h301 hkk hk hrow hsd m (i + 1) (by omega)
   rw [show 101 + L.length + 3 * i + 1 + 1 + 1 = 101 + L.length + 3 * (i + 1) from by omega]
   exact this
structure EndR (E : Env) (f : Nat → Int) (a : Int) (vs : Nat → Int) (rows : Nat → Row) : Prop where
 i : ∀ i, 300 ≤ i → i < 100000 → E.i i = vs i
 x : E.i 20 = a
 p : WordsIs (E.s 100).cs 2048 f
 s : ∀ q, 101 ≤ q → q < 200 → E.s q = rows q
theorem ends_q {a : Int} (ha : I64 a) (hf : OkQ f) : ∃ n vs rows, n < 9 ∧ ∀ E, EndR E f a vs rows → EOq n E ∧ FsOk E (fQ1 n) := by
 obtain ⟨Q, h⟩ := hf
 obtain ⟨p, hpd⟩ : ∃ p, lowI a = p := ⟨_, rfl⟩
 have hp : 0 ≤ p ∧ p < 256 := by rw [← hpd]; unfold lowI; omega
 have hpn : p.toNat < 256 := by omega
 have hpe : ((p.toNat : Nat) : Int) = p := by omega
 obtain ⟨k0, p0, c0⟩ := fronts_p hpn (q_w64 TT_thr h hpn).1
 rw [headOf_eq TT_thr h hpn, hpe] at c0
 obtain ⟨L, hL⟩ : ∃ L, Q p.toNat = L := ⟨_, rfl⟩
 have hel := fun u hu => h.el p.toNat u hpn hu
 have hnd := h.nd _ hpn
 have hlk := h.lk _ hpn
 have hall := rot_all h hpn
 have hcs := fun i hi => rot_cs h hpn (i := i) hi
 rw [hL] at c0 hel hnd hlk hall hcs
 rw [hpe] at hcs
 have hTT : ∀ x ∈ L, TT x := fun x hx => (hel x hx).1
 have h8 := len8 hnd hTT
 have hne : ∀ x ∈ L, x ≠ 0 := fun x hx => by have := TT_thr.lo x (hTT x hx); omega
 have hhd : hdN L 0 = L.getD 0 0 := by cases L <;> rfl
 obtain ⟨kk, hkk⟩ := Classical.axiomOfChoice (fun i => show ∃ k : Nat × Nat × Nat, i < L.length → MemC PP cP 15 [.int .i64 p] (rotF f L i) (.int .i64 (L.getD i 0 : Nat)) (rotF f L i) k.1 ∧ MemC PP cP 12 [.int .i64 (L.getD i 0 : Nat)] (rotF f L i) (.int .i64 0) (dropF (rotF f L i) (L.getD i 0)) k.2.1 ∧ MemC PP cP 11 [.int .i64 (L.getD i 0 : Nat)] (dropF (rotF f L i) (L.getD i 0)) (.int .i64 0) (rotF f L (i + 1)) k.2.2 ∧ 1 ≤ k.1 ∧ 1 ≤ k.2.1 ∧ 1 ≤ k.2.2 from by
  by_cases hi : i < L.length
  ·obtain ⟨⟨a1, a2, a3⟩, ⟨b1, b2, b3⟩, ⟨d1, d2, d3⟩⟩ := hcs i hi
   exact ⟨(a1, b1, d1), fun _ => ⟨a3, b3, d3, a2, b2, d2⟩⟩
  ·exact ⟨(0, 0, 0), fun h => absurd h hi⟩)
 refine ⟨L.length, vsQ p f L k0 kk, rowsQ f L, by omega, fun E e => ?_⟩
 have h301 : E.i 301 = p := (e.i 301 (by omega) (by omega)).trans rfl
 have i450 : E.i 450 = (L.getD 0 0 : Nat) := (e.i 450 (by omega) (by omega)).trans rfl
 have e8 : ∀ i j, i < 9 → j < 30 → E.i (800 + 40 * i + j) = fldT (getT f (L.getD i 0)) (regs f (L.getD i 0)) j := fun i j hi hj => (e.i _ (by omega) (by omega)).trans (vsQ_8 hj)
 have hsy : ∀ i, i < L.length → (symP i).den E = (L.getD i 0 : Nat) := fun i hi => symP_den i450 e8 hlk (by omega) hi
 have hr : ∀ q, 101 ≤ q → q ≤ 101 + L.length → WordsIs (E.s q).cs 2048 f := fun q h1 h2 => by
  rw [e.s q h1 (by omega)]
  unfold rowsQ
  rw [if_pos h2]; exact rowF_is _ _
 refine ⟨⟨⟨ent_g e.p (hr 101 (by omega) (by omega)) c0 p0 ((e.i 320 (by omega) (by omega)).trans rfl) (fun ρ => arg1 (vsi h301)) (fun ρ => ?_), ?_⟩, ?_, ?_⟩, ?_⟩
 ·rw [hhd]
  cases L with
  | nil => rfl
  | cons x r => exact vsi i450
 ·refine ents_app (thr_ents hTT (fun x hx => h.thr x (hTT x hx)) h8 hr i450 e8 hlk (fun i hi => ?_) L.length 0 (by omega)) ?_
  ·rw [e.i _ (by omega) (by omega)]
   unfold vsQ
   rw [if_neg (by omega), if_neg (by omega), if_pos (by omega)]
  ·have hlen : ((rng L.length).map (thrQ L.length)).length = L.length := by
    rw [List.length_map]
    have : ∀ m i, (rngF i m).length = m := fun m => by
     induction m with
     | zero => exact fun i => rfl
     | succ m ih => exact fun i => by show (rngF (i + 1) m).length + 1 = _; rw [ih]
    exact this _ _
   have := rots_ents (E := E) h hp hL (kk := kk) h8 h301 (fun i hi => hkk i hi) (fun i hi => ?_) e.s hsy L.length 0 (by omega)
   ·rw [show 100 + 1 + ((rng L.length).map (thrQ L.length)).length = 101 + L.length + 3 * 0 from by rw [hlen]; omega]
    exact this
   ·obtain ⟨v1, v2, v3⟩ := vsQ_k (p := p) (f := f) (L := L) (k0 := k0) (kk := kk) (i := i) (by omega)
    exact ⟨(e.i _ (by omega) (by omega)).trans v1, (e.i _ (by omega) (by omega)).trans v2, (e.i _ (by omega) (by omega)).trans v3⟩
 ·refine ⟨pe1 Try.call17 e.x (y := p) (fun ρ => vsi h301) trivial fun W => ?_, trivial⟩
  rw [← hpd]; exact low_c ha W
 ·refine ⟨f, hr _ (by omega) (by omega), ?_⟩
  by_cases e0 : L.length = 0
  ·rw [e0]; exact hr 101 (by omega) (by omega)
  ·have := rowsQ_2 (f := f) (L := L) (i := L.length - 1)
   rw [show 104 + L.length + 3 * (L.length - 1) = 101 + 4 * L.length from by omega, show L.length - 1 + 1 = L.length from by omega, hall] at this
   rw [e.s _ (by omega) (by omega), this]; exact rowF_is _ _
 ·refine ⟨f_ltn (show 0 ≤ E.i 301 by omega), f_ge (show 0 ≤ E.i 301 by omega), f_lt (show E.i 301 < 256 by omega), f_gen (show E.i 301 < 256 by omega), f_gtn (show E.i 301 ≤ 255 by omega), fs_app (fs_map _ _ fun k h1 h2 => ?_) (fs_map _ _ fun k h1 h2 => f_nen rfl)⟩
  refine f_ne ?_
  rw [hsy k (by omega)]
  show ((L.getD k 0 : Nat) : Int) ≠ 0
  have := hne _ (getD_mem (L := L) (i := k) (by omega))
  omega
def rowsB1 (h : H) : Bool := hc h (fun _ _ t => ptAll (fun _ o => match o with
 | .row q z N I l => vlBeq l [] || (Nat.beq q 1 && Nat.beq z 1 && SE.beq I (.v 12) && vlBeq l [.si .i64 (.v 13)])
 | _ => true) (fun p => p) t)
theorem rowsB1_ok {h : H} (hr : rowsB1 h = true) (h2 : E.i 12 = (E.s 1).idx) (hx : (E.s 1).idx < (E.s 1).len ∧ (E.s 1).cs[(E.s 1).off + (E.s 1).idx]? = some (.int .i64 (E.i 13))) : ∀ p o, h.t.get p = some o → RowEl E o := by
 intro p o hp
 unfold rowsB1 at hr
 rw [hc_eq] at hr
 have := ptAll_ok _ _ p o hr hp
 cases o with
 | row q z N I l =>
  simp only [Bool.or_eq_true, Bool.and_eq_true, Nat.beq_eq] at this
  rcases this with h1 | ⟨⟨⟨rfl, rfl⟩, hI⟩, hl⟩
  ·have := vlBeq_ok h1
   subst this
   exact fun h => absurd rfl h
  ·have hI := SE.beq_eq hI
   have hl := vlBeq_ok hl
   subst hI; subst hl
   obtain ⟨g1, g2⟩ := hx
   intro _
   refine ⟨h2, g1, rfl, fun ρ i hi => ?_⟩
   have : i = 0 := by simpa using hi
   subst this
   rw [Nat.mul_one, Nat.add_zero, g2]; rfl
 | _ => trivial
theorem hR_rows : (allB (fun j => rowsB1 (hR 1 j)) (rng 4) = true) ∧ allB (fun n => rowU (hR 1 (4 + n)) && rowU (hR 0 (4 + n))) (rng 9) = true := by decide +kernel
structure InvR (z : Nat) (a B : Int) (m j : Nat) (E : Env) : Prop where
 i20 : E.i 20 = a
 r : z = 1 → E.i 11 = (E.s 1).len ∧ ∃ D, RowI (E.s 1) D
 b : z = 1 → B = E.i 11
 i0 : 0 ≤ E.i 12
 m : (m : Int) + E.i 12 = B
 c : (z = 1 ∧ 1 ≤ j ∧ j ≤ 3 ∧ E.i 12 < E.i 11 ∧ EntsOk PP cP E 100 (esR j) ∧ PsOk PP E (psR j) ∧ ∃ f', OkQ f' ∧ WordsIs (E.s (rowR j)).cs 2048 f') ∨ (4 ≤ j ∧ j < 13 ∧ EOq (j - 4) E ∧ FsOk E (fQ1 (j - 4)) ∧ (z = 1 → ¬ E.i 12 < E.i 11) ∧ (z = 0 → E.i 12 = 0))
theorem pushed (hf : OkQ f) {x : Int} (hx : I64 x) : (tcI x = 1056) ∨ ∃ t, TT t ∧ tcI x = (t : Int) ∧ ((∃ f', OkQ f' ∧ MemE PP cP 11 [.int .i64 t] f (.int .i64 0) f') ∨ MemE PP cP 11 [.int .i64 t] f (.int .i64 120) f) := by
 obtain ⟨Q, h⟩ := hf
 by_cases h8 : x % 9 = 8
 ·exact .inl (if_pos h8)
 ·right
  have ht : TT (tcM (x % 9).toNat) := tcM_tt (by omega)
  refine ⟨tcM (x % 9).toNat, ht, ?_, ?_⟩
  ·unfold tcI tcM; rw [if_neg h8]; omega
  ·cases hq : (getT f (tcM (x % 9).toNat)).q with
   | false => exact .inl ⟨_, ⟨_, (push_g TT_thr h ht hq).1⟩, push_cp h ht hq⟩
   | true => exact .inr (full_p h ht hq)
theorem nxA_s (σ : Sg) (E : Env) (x : Int) (vs : Nat → Int) (rows : Nat → Row) (q : Nat) : (nxA σ E x vs rows).s q = nxS σ E x rows q := rfl
theorem mem_nxR {σ : Sg} {j : Nat} (h1 : 1 ≤ j) (h2 : j < 13) : (j, σ) ∈ nxR σ := by
 unfold nxR
 refine List.mem_map.2 ⟨j - 1, mem_rngF (by omega) (by omega), ?_⟩
 rw [show j - 1 + 1 = j from by omega]
theorem mem_nxR0 {z : Nat} {σ : Sg} {j : Nat} (hz : z = 0 ∨ z = 1) (h : (z = 1 ∧ 1 ≤ j ∧ j < 13) ∨ (4 ≤ j ∧ j < 13)) : (j, σ) ∈ nxR0 z σ := by
 rcases hz with rfl | rfl
 ·have h : 4 ≤ j ∧ j < 13 := by omega
  show (j, σ) ∈ (rng 9).map fun j => (j + 4, σ)
  refine List.mem_map.2 ⟨j - 4, mem_rngF (by omega) (by omega), ?_⟩
  rw [show j - 4 + 4 = j from by omega]
 ·exact mem_nxR (by omega) (by omega)
theorem leadR {z q m : Nat} {a B x : Int} (hz : z = 0 ∨ z = 1) (ha : I64 a) (hf : OkQ f) {σ : Sg} (hq : WordsIs (E.s q).cs 2048 f) (g11 : σ 11 = some (.v 11)) {s12 : SE} (g12 : σ 12 = some s12) (hx : s12.den E = x) (g20 : σ 20 = some (.v 20)) (h20 : E.i 20 = a) (gp : σ 100100 = some (.lit (.ofNat q)))
  (n13 : σ 13 = none) (nf : ∀ i, 300 ≤ i → i < 100000 → σ i = none) (nr : ∀ q, 101 ≤ q → q < 200 → σ (100000 + q) = none) (hr : z = 1 → E.i 11 = (E.s 1).len ∧ ∃ D, RowI (E.s 1) D) (h0 : 0 ≤ x) (hB : z = 1 → B = E.i 11) (hxB : x ≤ B) (h00 : z = 0 → x = 0) (hm : B - x < m) :
  ∃ j' m' E', ((z = 1 ∧ 1 ≤ j' ∧ j' < 13) ∨ (4 ≤ j' ∧ j' < 13)) ∧ m' < m ∧ InvR z a B m' j' E' ∧ TrE σ E E' ∧ ∀ p o, (stR z j').h.t.get p = some o → RowEl E' o := by
 have key : ∀ (vs : Nat → Int) (rows : Nat → Row), ∃ E', TrE σ E E' ∧ E'.i 11 = E.i 11 ∧ E'.i 12 = x ∧ E'.i 20 = a ∧ E'.s 1 = { E.s 1 with idx := x.toNat } ∧ WordsIs (E'.s 100).cs 2048 f ∧ E'.i 13 = vs 13 ∧ (∀ i, 300 ≤ i → i < 100000 → E'.i i = vs i) ∧ (∀ q, 101 ≤ q → q < 200 → E'.s q = rows q) := by
  intro vs rows
  have t := nxA_tr σ E x vs rows
  refine ⟨nxA σ E x vs rows, t, t.i 11 _ g11, (t.i 12 _ g12).trans hx, (t.i 20 _ g20).trans h20, rfl, ?_, by simp [nxA, n13], fun i h1 h2 => by simp [nxA, nf i h1 h2], fun q h1 h2 => ?_⟩
  ·rw [nxA_s]
   unfold nxS
   rw [if_neg (by omega), show 100000 + 100 = 100100 from rfl, gp]; exact hq
  ·rw [nxA_s]
   unfold nxS
   rw [if_neg (by omega), nr q h1 h2]
 by_cases hk : z = 1 ∧ x < B
 ·obtain ⟨rfl, hlt⟩ := hk
  obtain ⟨hlen, D, hD⟩ := hr rfl
  have hB := hB rfl
  have hxl : x.toNat < (E.s 1).len := by omega
  obtain ⟨d0, d1⟩ := hD.c x.toNat hxl
  have fin : ∀ (j k : Nat) (tv : Int) (f' : Nat → Int), 1 ≤ j → j ≤ 3 → OkQ f' → (j = 3 → f' = f) → (∀ E' : Env, E'.i 13 = D x.toNat → E'.i 300 = tv → E'.i 310 = (k : Nat) → WordsIs (E'.s 100).cs 2048 f → WordsIs (E'.s 101).cs 2048 f' → EntsOk PP cP E' 100 (esR j) ∧ PsOk PP E' (psR j)) →
    ∃ j' m' E', ((1 = 1 ∧ 1 ≤ j' ∧ j' < 13) ∨ (4 ≤ j' ∧ j' < 13)) ∧ m' < m ∧ InvR 1 a B m' j' E' ∧ TrE σ E E' ∧ ∀ p o, (stR 1 j').h.t.get p = some o → RowEl E' o := by
   intro j k tv f' j1 j3 hf' h3 hents
   obtain ⟨E', t, e11, e12, e20, es1, e100, e13, ev, er⟩ := key (fun i => if i = 13 then D x.toNat else if i = 300 then tv else (k : Nat)) (fun _ => rowF 2048 f')
   have w101 : WordsIs (E'.s 101).cs 2048 f' := by rw [er 101 (by omega) (by omega)]; exact rowF_is _ _
   obtain ⟨g1, g2⟩ := hents E' (e13.trans rfl) ((ev 300 (by omega) (by omega)).trans rfl) ((ev 310 (by omega) (by omega)).trans rfl) e100 w101
   refine ⟨j, (B - x).toNat, E', .inl ⟨rfl, j1, by omega⟩, by omega, ⟨e20, fun _ => ⟨by rw [e11, es1]; exact hlen, D, by rw [es1]; exact ⟨hD.esz, hD.c⟩⟩, fun _ => by rw [e11]; exact hB, by omega, by omega, .inl ⟨rfl, j1, j3, by omega, g1, g2, f', hf', ?_⟩⟩, t, ?_⟩
   ·unfold rowR
    by_cases hj : j = 3
    ·subst hj
     rw [h3 rfl]; exact e100
    ·rw [show Nat.ble j 2 = true by rw [Nat.ble_eq]; omega]; exact w101
   ·refine rowsB1_ok (rng_ok hR_rows.1 j (by omega)) (by rw [e12, es1]; show x = ((x.toNat : Nat) : Int); omega) ?_
    rw [es1, e13]
    exact ⟨hxl, d0⟩
  rcases pushed hf d1 with h1 | ⟨t, ht, htc, ⟨f', hf', k, kp, hc⟩ | ⟨k, kp, hc⟩⟩
  ·exact fin 3 1 0 f (by omega) (by omega) hf (fun _ => rfl) fun E' i13 i300 i310 w w' => ⟨trivial, pe1 Try.call10 i13 (y := 1056) (fun ρ => rfl) trivial fun W => (by rw [← h1]; exact tcb_c d1 W), trivial⟩
  ·exact fin 1 k t f' (by omega) (by omega) hf' (fun h => by omega) fun E' i13 i300 i310 w w' => ⟨⟨ent_g w w' hc kp i310 (fun ρ => arg1 (vsi i300)) (fun ρ => rfl), trivial⟩, pe1 Try.call10 i13 (y := t) (fun ρ => vsi i300) trivial fun W => (by rw [← htc]; exact tcb_c d1 W), trivial⟩
  ·exact fin 2 k t f (by omega) (by omega) hf (fun h => by omega) fun E' i13 i300 i310 w w' => ⟨⟨ent_g w w' hc kp i310 (fun ρ => arg1 (vsi i300)) (fun ρ => rfl), trivial⟩, pe1 Try.call10 i13 (y := t) (fun ρ => vsi i300) trivial fun W => (by rw [← htc]; exact tcb_c d1 W), trivial⟩
 ·obtain ⟨n, vs, rows, hn, hall⟩ := ends_q ha hf
  obtain ⟨E', t, e11, e12, e20, es1, e100, e13, ev, er⟩ := key vs rows
  obtain ⟨g1, g2⟩ := hall E' ⟨ev, e20, e100, er⟩
  refine ⟨4 + n, (B - x).toNat, E', .inr ⟨by omega, by omega⟩, by omega, ⟨e20, fun h => ?_, fun h => by rw [e11]; exact hB h, by omega, by omega, .inr ⟨by omega, by omega, by rw [show 4 + n - 4 = n from by omega]; exact g1, by rw [show 4 + n - 4 = n from by omega]; exact g2, fun h => ?_, fun h => by rw [e12]; exact h00 h⟩⟩, t, ?_⟩
  ·obtain ⟨hlen, D, hD⟩ := hr h
   exact ⟨by rw [e11, es1]; exact hlen, D, by rw [es1]; exact ⟨hD.esz, hD.c⟩⟩
  ·have := hB h
   rw [e11, e12]; omega
  ·have := rng_ok hR_rows.2 n hn
   simp only [Bool.and_eq_true] at this
   rcases hz with rfl | rfl
   ·exact rowU_ok this.2
   ·exact rowU_ok this.1
theorem sgR_cut {j i : Nat} (a1 : i ≠ 11) (a2 : i ≠ 12) (a3 : i ≠ 5) (a4 : i ≠ 20) (a5 : i ≠ 100100) : sgR j i = none ∧ sgR0 i = none := by
 constructor <;> refine sgL_cut fun p hp => ?_ <;> simp only [List.mem_cons, List.not_mem_nil, or_false] at hp <;> rcases hp with rfl | rfl | rfl | rfl | rfl <;> assumption
theorem cxQ_ok {n : Nat} (h : EOq n E) : CxOk E PP (tyOf PP) (cxQ n) := by
 obtain ⟨h1, h2, f', h4, h5⟩ := h
 refine cxW_ok (cxM_ok (hC0 E) h1 (ps_list h2)) (cloneK_ok (by omega) Try.call44 (fun b off n c zs w hz hb hc => clone_c b off n c zs w hz hb hc) fun q hq => ⟨f', ?_⟩) (alikeK_ok (by omega) Try.call20 @same20 fun q q' hq => ⟨f', ?_⟩)
 ·have : q = 101 + n ∨ q = 101 + 4 * n := by simpa using hq
  rcases this with rfl | rfl
  ·exact h4
  ·exact h5
 ·have : q = 101 + n ∧ q' = 101 + 4 * n := by simpa using hq
  rw [this.1, this.2]; exact ⟨h4, h5⟩
def rho2 (r0 r1 : Row) : Rho := fun p => if p.toNat = 1 then ⟨r0.b, 0⟩ else ⟨r1.b, 0⟩
theorem hM0_sat {b : Bool} {z : Nat} (hz : z ≤ 3) {W : World} (w0 : b = false → W.heap[(E.s 0).b]? = some (.cells (E.s 0).cs (E.s 0).t (E.s 0).fz) ∧ (E.s 0).esz = 1 ∧ E.i 1 = (E.s 0).len) (w1 : z ≠ 0 → W.heap[(E.s 1).b]? = some (.cells (E.s 1).cs (E.s 1).t (E.s 1).fz) ∧ (E.s 1).esz = z ∧ E.i 11 = (E.s 1).len) : Sat E (rho2 (E.s 0) (E.s 1)) (hM0 b z) W := by
 refine ⟨fun p o hp => ?_, fun p q o o' hp hq l1 _ _ => ?_, fun p o hp => ?_⟩
 ·rcases hM0_get hp with ⟨rfl, rfl⟩ | ⟨rfl, rfl⟩
  ·cases b with
   | true => exact trivial
   | false =>
    obtain ⟨g1, g2, g3⟩ := w0 rfl
    exact ⟨rfl, g1, g2, g3, fun h => absurd rfl h⟩
  ·match z, w1 with
   | 0, _ => exact trivial
   | z + 1, w1 =>
    obtain ⟨g1, g2, g3⟩ := w1 (by omega)
    exact ⟨rfl, g1, g2, g3, fun h => absurd rfl h⟩
 ·exfalso
  rcases hM0_get hp with ⟨rfl, rfl⟩ | ⟨rfl, rfl⟩
  ·cases b <;> simp [o0, O.mine] at l1
  ·match z with
   | 0 => simp [o1, O.mine] at l1
   | z + 1 => simp [o1, O.mine] at l1
 ·rcases hM0_get hp with ⟨rfl, rfl⟩ | ⟨rfl, rfl⟩
  ·exact ⟨by show 1 < 3; omega, by cases b <;> exact trivial⟩
  ·refine ⟨by show 2 < 3; omega, ?_⟩
   match z with
   | 0 => exact trivial
   | z + 1 => exact trivial
theorem hM0_new {b : Bool} {z : Nat} {W : World} {ρ : Rho} : ∀ p o, (hM0 b z).t.get p = some o → o.live = true → (hM0 b z).lo.toNat ≤ p.toNat → W.heap.size ≤ (ρ p).b := by
 intro p o hp hl hlo
 have hlo : 3 ≤ p.toNat := hlo
 rcases hM0_get hp with ⟨rfl, _⟩ | ⟨rfl, _⟩
 ·have : (q1 : Ev.P).toNat = 1 := rfl
  omega
 ·have : (q2 : Ev.P).toNat = 2 := rfl
  omega
def v0 (b : Bool) (r : Row) : Value := bif b then .slice none 0 0 else .slice (some ⟨r.b, r.off, none⟩) r.len r.cap
theorem big_run {F : Nat} {b : Bool} {z : Nat} {l : List V} {fs : List (SB × Bool)} (hr : callS cx0 0 noCall F l (hM0 b z) ⟨fs, []⟩ (endV (.b true)) = 0) (hfs : FsOk E fs) (hl : bdL 3 l) {ρ : Rho} {W : World} (hs : Sat E ρ (hM0 b z) W) : Calls PP F (γL E ρ l).toArray W fun e w' => e = .returned (.bool true) ∧ RowKit.Below W.heap.size W w' := by
 obtain ⟨_, v, h', fa', hk, _, hrun⟩ := callS_run (hC0 E) 0 noCall_ok F l (hM0 b z) ⟨fs, []⟩ (endV (.b true)) hr (fa_list hfs trivial)
 have hv : v = .b true := by
  obtain ⟨h1, _⟩ := bc_ok (show bc (V.beq v (.b true)) 0 1 = 0 from hk) (by simp)
  exact V.beq_ok h1
 subst hv
 refine (hrun ρ W hl hs).mono ?_
 rintro e w' ⟨ρ', rfl, s, x, _⟩
 refine ⟨rfl, x.os, x.tape, x.output, x.size, fun k hk => x.keep k hk fun p o hp hl hlo => ?_⟩
 have := hM0_new (W := W) (ρ := fun _ => ⟨0, 0⟩) p o hp hl hlo
 have : W.heap.size ≤ 0 := this
 omega
theorem round_any {b : Bool} {z : Nat} (hz : z = 0 ∨ z = 1) {r0 r1 : Row} {D0 D1 : Nat → Int} (h0 : b = false → RowI r0 D0) (h1 : z = 1 → RowI r1 D1) {a : Int} (ha : I64 a) {W : World} (w0 : b = false → W.heap[r0.b]? = some (.cells r0.cs r0.t r0.fz)) (w1 : z = 1 → W.heap[r1.b]? = some (.cells r1.cs r1.t r1.fz)) :
  Calls PP 4 #[v0 b r0, v0 (Nat.beq z 0) r1, .int .i64 a] W fun e w' => e = .returned (.bool true) ∧ RowKit.Below W.heap.size W w' := by
 obtain ⟨E, hE⟩ : ∃ E : Env, E = ⟨fun i => if i = 20 then a else if i = 1 then r0.len else if i = 11 then r1.len else if i = 100100 then 100 else if i = 100200 then 200 else 160, fun _ => false, fun q => if q = 0 then r0 else if q = 1 then r1 else if q = 100 ∨ q = 200 then rowF 2048 (madeW b r0 D0 8) else rowF 2048 (fun _ => 0)⟩ := ⟨_, rfl⟩
 have s0 : E.s 0 = r0 := by rw [hE]; rfl
 have s1 : E.s 1 = r1 := by rw [hE]; rfl
 have i1 : E.i 1 = r0.len := by rw [hE]; rfl
 have i11 : E.i 11 = r1.len := by rw [hE]; rfl
 have i20 : E.i 20 = a := by rw [hE]; rfl
 have s100 : E.s 100 = rowF 2048 (madeW b r0 D0 8) := by rw [hE]; rfl
 have hME : MadeE b D0 E := ⟨by rw [hE]; rfl, by rw [hE]; rfl, by rw [s100, s0]; rfl, by rw [s0, hE]; rfl, by rw [hE]; rfl, by rw [hE]; rfl, by rw [hE]; rfl, by rw [hE]; rfl, by rw [s0]; exact h0⟩
 have hsat : Sat E (rho2 r0 r1) (hM0 b z) W := by
  have := hM0_sat (E := E) (b := b) (z := z) (W := W) (by omega) (by rw [s0]; exact fun hb => ⟨w0 hb, (h0 hb).esz, i1⟩) (by rw [s1]; exact fun h => ⟨w1 (by omega), by have := (h1 (by omega)).esz; omega, i11⟩)
  rw [s0, s1] at this; exact this
 have hbd : bdL 3 [a0 b, a1 z, .si .i64 (.v 20)] := by
  refine ⟨?_, ?_, trivial, trivial⟩
  ·cases b with
   | true => exact trivial
   | false => exact (by show 1 < 3; omega)
  ·rcases hz with rfl | rfl
   ·exact trivial
   ·exact (by show 2 < 3; omega)
 have hargs : (γL E (rho2 r0 r1) [a0 b, a1 z, .si .i64 (.v 20)]).toArray = #[v0 b r0, v0 (Nat.beq z 0) r1, .int .i64 a] := by
  have e0 : (a0 b).γ E (rho2 r0 r1) = v0 b r0 := by
   cases b with
   | true => rfl
   | false => show Value.slice _ _ _ = Value.slice _ _ _; rw [s0]
  have e1 : (a1 z).γ E (rho2 r0 r1) = v0 (Nat.beq z 0) r1 := by
   rcases hz with rfl | rfl
   ·rfl
   ·show Value.slice _ _ _ = Value.slice _ _ _; rw [s1]
  simp only [γL, e0, e1, V.γ, SE.den, i20]
 rw [← hargs]
 by_cases hb0 : b = false ∧ 2147483647 < r0.len
 ·obtain ⟨rfl, hb0⟩ := hb0
  refine big_run (fs := fB0) ?_ ⟨f_gt (show (2147483647 : Int) < E.i 1 by rw [i1]; omega), trivial⟩ hbd hsat
  rcases hz with rfl | rfl
  ·exact bigR_ok.1.1
  ·exact bigR_ok.1.2
 by_cases hb1 : z = 1 ∧ 2147483647 < r1.len
 ·obtain ⟨rfl, hb1⟩ := hb1
  refine big_run (fs := fB1 b) ?_ ?_ hbd hsat
  ·cases b with
   | false => exact bigR_ok.2.1
   | true => exact bigR_ok.2.2
  ·cases b with
   | false => exact ⟨f_gtn (show E.i 1 ≤ 2147483647 by rw [i1]; have : ¬ 2147483647 < r0.len := fun h => hb0 ⟨rfl, h⟩; omega), f_gt (show (2147483647 : Int) < E.i 11 by rw [i11]; omega), trivial⟩
   | true => exact ⟨f_gt (show (2147483647 : Int) < E.i 11 by rw [i11]; omega), trivial⟩
 have hzo : zOk b z = true := by
  have := allB_ok z_ok b (b_mem b)
  simp only [Bool.and_eq_true] at this
  rcases hz with rfl | rfl
  ·exact this.1
  ·exact this.2.1
 have hf0 : OkQ (madeW b r0 D0 8) := ⟨_, (made_q _ (prD_lt _ _)).1⟩
 have hfI : FsOk E (fI b z) := by
  refine fs_app ?_ ?_
  ·cases b with
   | true => exact trivial
   | false => exact ⟨f_gtn (show E.i 1 ≤ 2147483647 by rw [i1]; have : ¬ 2147483647 < r0.len := fun h => hb0 ⟨rfl, h⟩; omega), trivial⟩
  ·rcases hz with rfl | rfl
   ·exact trivial
   ·exact ⟨f_gtn (show E.i 11 ≤ 2147483647 by rw [i11]; have : ¬ 2147483647 < r1.len := fun h => hb1 ⟨rfl, h⟩; omega), trivial⟩
 obtain ⟨B, hBd⟩ : ∃ B : Int, B = if z = 1 then (r1.len : Int) else 0 := ⟨_, rfl⟩
 have hB1 : z = 1 → B = E.i 11 := fun h => by rw [hBd, if_pos h, i11]
 have hB0 : 0 ≤ B := by rw [hBd]; split <;> omega
 have hBs : B ≤ 2147483647 := by
  rw [hBd]; split
  ·rename_i h
   have : ¬ 2147483647 < r1.len := fun h' => hb1 ⟨h, h'⟩
   omega
  ·omega
 have hin := allB_ok inR_ok b (b_mem b)
 simp only [Bool.and_eq_true] at hin
 refine cut_law tyOk_tyOf mixedX Try.func4 qcr w4 (st := stR z) (gj := fun j => bif Nat.ble j 3 then gR j else gQ (j - 4)) (Inv := InvR z a B) (fun m j E' h => ?_) (fun m j E' hI => ?_) (E := E) (g0 := ⟨inRc b z, 4, 20000⟩) (callAx_ok (made_ok hzo hME (callT_run (hC0 E) 20))) (fa := ⟨fI b z, []⟩) (fa_list (l := fI b z) (r := []) hfI trivial) (nx := nxR0 z sgR0) (B.toNat + 1) ?_ ?_ hsat hbd hM0_new
 ·rcases h.c with ⟨_, j1, j3, _, e1, e2, _⟩ | ⟨j1, j2, e1, _⟩
  ·rw [show Nat.ble j 3 = true by rw [Nat.ble_eq]; exact j3]
   exact callT_run (cxM_ok (hC0 E') e1 (ps_list e2)) 20
  ·rw [show Nat.ble j 3 = false by rw [Bool.eq_false_iff, ne_eq, Nat.ble_eq]; omega]
   exact callT_run (cxQ_ok e1) 20
 ·rcases hI.c with ⟨rfl, j1, j3, hlt, e1, e2, f', hf', hw'⟩ | ⟨j1, j2, e1, e2, e3, e4⟩
  ·rw [show Nat.ble j 3 = true by rw [Nat.ble_eq]; exact j3]
   obtain ⟨hlen, D, hD⟩ := hI.r rfl
   have hgo := rng_ok goR_ok (j - 1) (by omega)
   rw [show j - 1 + 1 = j from by omega] at hgo
   refine ⟨⟨fR1, []⟩, nxR (sgR j), fa_list ⟨f_lt hlt, trivial⟩ trivial, Nat.eq_of_beq_eq_true hgo, fun _ => ?_⟩
   have hm := hI.m
   have h0 := hI.i0
   obtain ⟨j', m', E2, hj', hm', hI', ht, hrow⟩ := leadR (E := E') (z := 1) (q := rowR j) (m := m) (a := a) (B := B) (x := E'.i 12 + 1) (.inr rfl) ha hf' (σ := sgR j) hw' rfl (s12 := .op .add .i64 (.v 12) (.lit 1)) rfl (by
    show wrapF .i64 (E'.i 12 + 1) = _
    have := hI.b rfl
    rw [wrapF_eq, IntKind.wrap_i64]; omega) rfl hI.i20 rfl rfl (fun i h1 h2 => (sgR_cut (by omega) (by omega) (by omega) (by omega) (by omega)).1) (fun q h1 h2 => (sgR_cut (by omega) (by omega) (by omega) (by omega) (by omega)).1) (fun _ => ⟨hlen, D, hD⟩) (by omega) hI.b (by have := hI.b rfl; omega) (fun h => by omega) (by omega)
   exact ⟨j', sgR j, m', E2, mem_nxR (by omega) (by omega), hm', hI', ht, hrow⟩
  ·rw [show Nat.ble j 3 = false by rw [Bool.eq_false_iff, ne_eq, Nat.ble_eq]; omega]
   have hout := rng_ok outR_ok (j - 4) (by omega)
   simp only [Bool.and_eq_true] at hout
   rw [show stR z = stR z from rfl]
   refine ⟨⟨fQ z (j - 4), []⟩, [], fa_list ⟨?_, e2⟩ trivial, ?_, fun h => absurd rfl h⟩
   ·rcases hz with rfl | rfl
    ·exact f_ltn (show 0 ≤ E'.i 12 from hI.i0)
    ·exact f_ltn (show E'.i 11 ≤ E'.i 12 by have := e3 rfl; omega)
   ·have hj : 4 + (j - 4) = j := by omega
    rcases hz with rfl | rfl
    ·have := Nat.eq_of_beq_eq_true hout.2
     unfold outR at this
     rw [hj] at this; exact this
    ·have := Nat.eq_of_beq_eq_true hout.1
     unfold outR at this
     rw [hj] at this; exact this
 ·intro _
  obtain ⟨j', m', E2, hj', hm', hI', ht, hrow⟩ := leadR (E := E) (z := z) (q := 100) (m := B.toNat + 1) (a := a) (B := B) (x := 0) hz ha hf0 (σ := sgR0) (by rw [s100]; exact rowF_is _ _) rfl (s12 := .lit 0) rfl rfl rfl i20 rfl rfl (fun i h1 h2 => (sgR_cut (j := 1) (by omega) (by omega) (by omega) (by omega) (by omega)).2) (fun q h1 h2 => (sgR_cut (j := 1) (by omega) (by omega) (by omega) (by omega) (by omega)).2) (fun h => ⟨by rw [s1]; exact i11, D1, by rw [s1]; exact h1 h⟩) (Int.le_refl 0) hB1 hB0 (fun _ => rfl) (by omega)
  exact ⟨j', sgR0, m', E2, mem_nxR0 hz hj', hm', hI', ht, hrow⟩
 ·rcases hz with rfl | rfl
  ·exact Nat.eq_of_beq_eq_true hin.1
  ·exact Nat.eq_of_beq_eq_true hin.2
end Go.Ev.X
end
