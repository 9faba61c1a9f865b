/-
 ReadyEnds: which case it is behind the loop, and what is known then.
-/
import Derived.Test.YtgaelfnoffejgaaVQ
import Derived.Test.YtgaelfnoffejgaaUPz
import Derived.Test.YtgaelfnoffejgaaUEz
import Derived.Test.YtgaelfnoffejgaaCLz
set_option linter.unusedSimpArgs false
set_option linter.unusedVariables false
set_option maxRecDepth 100000
noncomputable section
namespace Go.Ev.X
open Go Go.Ev Go.Proofs
variable {E : Env} {f f' : Nat → Int} {t : Nat} {vs : Nat → Int}
def ldF2 (f : Nat → Int) (a x : Int) : Nat → Int := if 0 ≤ a ∧ a < 2048 then upd f a.toNat x else f
def ldR (a : Int) : Int := if 0 ≤ a ∧ a < 2048 then 0 else 20
theorem load_c {a x : Int} (ha : I64 a) : LoadC PP cP 24 f a x (ldF2 f a x) (ldR a) := by
 refine ⟨Try.call24, fun w bm ba bs t st hat hb hne => ?_⟩
 obtain ⟨cs, hcs, hsz, hcell⟩ := hat.a
 have hsz : cs.size = 2048 := hsz
 have c0 : w.cell? ⟨bm, 0, none⟩ = some (.slice (some ⟨ba, 0, none⟩) 2048 2048) := by
  have := hat.m
  simp [World.cell?, this]; rfl
 have cx : w.cell? ⟨bs, 0, none⟩ = some (.int .u64 x) := by simp [World.cell?, hb]
 have hlt : ba < w.heap.size := (Array.getElem?_eq_some_iff.1 hcs).1
 unfold ldF2 ldR
 by_cases h : 0 ≤ a ∧ a < 2048
 ·rw [if_pos h, if_pos h]
  obtain ⟨n, rfl⟩ := Int.eq_ofNat_of_zero_le h.1
  have hn : n < 2048 := by omega
  refine (load_in bm ba bs n x t cs w c0 hcs hsz hn cx).mono ?_
  rintro e w' ⟨he, rfl⟩
  have hl : cs.toList.length = 2048 := by simpa using hsz
  refine ⟨he, ⟨hat.ne, ?_, ?_⟩, ⟨rfl, rfl, rfl, by simp [World.setRow], fun b _ _ h2 => setRow_other w ba b _ h2⟩⟩
  ·rw [setRow_other w ba bm _ hat.ne]; exact hat.m
  ·refine ⟨_, setRow_heap w ba cs _ 33 _ hcs, by simp [hl]; omega, fun i hi => ?_⟩
   have hi : i < 2048 := hi
   have hc := hcell i hi
   have hc' : cs.toList[i]? = some (.int .u64 (f i)) := by simpa using hc
   rw [Int.toNat_natCast]
   simp only [List.getElem?_toArray]
   by_cases e : i < n
   ·rw [List.getElem?_append_left (by simp [hl]; omega), List.getElem?_take, if_pos e, hc', upd_other _ _ (by omega)]
   ·by_cases e2 : i = n
    ·subst e2
     rw [List.getElem?_append_right (by simp [hl]; omega), upd_same]
     simp [hl, Nat.min_eq_left (Nat.le_of_lt hn)]
    ·rw [List.getElem?_append_right (by simp [hl]; omega), upd_other _ _ e2]
     have : i - (cs.toList.take n).length = (i - n - 1) + 1 := by simp [hl]; omega
     rw [this]
     show ([] ++ (cs.toList.drop (n + 1)))[i - n - 1]? = _
     rw [List.nil_append, List.getElem?_drop, show n + 1 + (i - n - 1) = i from by omega, hc']
 ·rw [if_neg h, if_neg h]
  refine (load_out bm ba bs a w c0 ha.1 ha.2 (by omega)).mono ?_
  rintro e w' ⟨he, rfl⟩
  exact ⟨he, hat, ⟨rfl, rfl, rfl, Nat.le_refl _, fun _ _ _ _ => rfl⟩⟩
theorem wa_ld (hw : WA f) {a x : Int} (hx : W64 x) : WA (ldF2 f a x) := by
 unfold ldF2
 split
 ·exact wa_upd hw hx
 ·exact hw
inductive ChB (vs : Nat → Int) : List Sh → (Nat → Int) → (Nat → Int) → Prop where
 | nil (f : Nat → Int) : ChB vs [] f f
 | cons {s : Sh} {r : List Sh} {f g f' : Nat → Int} {k : Nat} {args : List Value} {ret : Value} : 1 ≤ k → k ≤ 200 → MemC PP cP s.F args f ret g k → (∀ E, AgV E vs → ∀ ρ, γL E ρ s.l = args) → (∀ E, AgV E vs → ∀ ρ, s.v.γ E ρ = ret) → ChB vs r g f' → ChB vs (s :: r) f f'
theorem chB_app {a b : List Sh} {f g f' : Nat → Int} (h : ChB vs a f g) (h2 : ChB vs b g f') : ChB vs (a ++ b) f f' := by
 induction h with
 | nil f => exact h2
 | cons h1 h3 hm ha hv _ ih => exact ChB.cons h1 h3 hm ha hv (ih h2)
theorem chB_env {sh : List Sh} {f f' : Nat → Int} (h : ChB vs sh f f') : ∀ i0, ∃ (ks : Nat → Nat) (rows : Nat → Nat → Int), rows i0 = f ∧ (∀ j, ks j ≤ 200) ∧
  ∀ E : Env, AgV E vs → (∀ j, i0 ≤ j → j < i0 + sh.length → E.i (9000 + j) = (ks j : Nat)) → (∀ j, i0 ≤ j → j ≤ i0 + sh.length → WordsIs (E.s j).cs 2048 (rows j)) → EntsOk PP cP E i0 (entS i0 sh) := by
 induction h with
 | nil f => exact fun i0 => ⟨fun _ => 0, fun _ => f, rfl, fun j => Nat.zero_le _, fun E _ _ _ => trivial⟩
 | @cons s r f g f' k args ret h1 h3 hm ha hv _ ih =>
  intro i0
  obtain ⟨ks, rows, r0, r1, hall⟩ := ih (i0 + 1)
  refine ⟨fun j => if j = i0 then k else ks j, fun j => if j = i0 then f else rows j, if_pos rfl, fun j => ?_, fun E hE hk hr => ?_⟩
  ·show (if j = i0 then k else ks j) ≤ 200
   split
   ·exact h3
   ·exact r1 j
  ·have hl : (s :: r).length = r.length + 1 := rfl
   rw [hl] at hk hr
   have w0 : WordsIs (E.s i0).cs 2048 f := by
    have := hr i0 (by omega) (by omega)
    simp only [if_pos] at this
    exact this
   have w1 : WordsIs (E.s (i0 + 1)).cs 2048 g := by
    have := hr (i0 + 1) (by omega) (by omega)
    simp only [if_neg (show ¬ i0 + 1 = i0 by omega), r0] at this
    exact this
   have hk0 : E.i (9000 + i0) = (k : Nat) := by have := hk i0 (by omega) (by omega); simp only [if_pos] at this; exact this
   have g1 := hall E hE (fun j h2 h3 => by have := hk j (by omega) (by omega); simp only [if_neg (show ¬ j = i0 by omega)] at this; exact this) (fun j h2 h3 => by have := hr j (by omega) (by omega); simp only [if_neg (show ¬ j = i0 by omega)] at this; exact this)
   exact ⟨⟨f, g, k, h1, hk0, w0, w1, fun ρ => by
    show MemC PP cP s.F (γL E ρ s.l) f (s.v.γ E ρ) g k
    rw [ha E hE ρ, hv E hE ρ]; exact hm⟩, g1⟩
theorem nob_ex {x : Int} (hx : I64 x) (h : ¬ ∃ t : Nat, T16 t ∧ x = t) : ∃ o, (o = 1 ∨ o = 2 ∨ o = 3) ∧ ∀ (E : Env) (a : SE), a.den E = x → FsOk E (tfs a o).tail := by
 have rem : ∀ (E : Env) (a : SE), a.den E = x → 0 ≤ x → SE.den E (.op .rem .i64 a (.lit 64)) = x % 64 := fun E a h h0 => by
  show (a.den E).tmod 64 = _
  rw [h, Int.tmod_eq_emod_of_nonneg h0]
 by_cases h1 : 1024 ≤ x
 ·by_cases h2 : x % 64 = 0
  ·by_cases h3 : x ≤ 1984
   ·refine absurd ⟨x.toNat, ⟨(x.toNat - 1024) / 64, by omega, ?_⟩, by omega⟩ h
    unfold t16
    omega
   ·exact ⟨3, by omega, fun E a e => ⟨f_ge (by show (1024 : Int) ≤ a.den E; rw [e]; exact h1), f_eq (by rw [rem E a e (by omega), h2]; rfl), f_len (by show (1984 : Int) < a.den E; rw [e]; omega), trivial⟩⟩
  ·exact ⟨2, by omega, fun E a e => ⟨f_ge (by show (1024 : Int) ≤ a.den E; rw [e]; exact h1), f_eqn (by rw [rem E a e (by omega)]; exact h2), trivial⟩⟩
 ·exact ⟨1, by omega, fun E a e => ⟨f_gen (by show a.den E < (1024 : Int); rw [e]; omega), trivial⟩⟩
theorem tfs_ok {o : Nat} (ho : o ≠ 0) {a : SE} {x : Int} (e : a.den E = x) (h0 : x ≠ 0) (h : FsOk E (tfs a o).tail) : FsOk E (tfs a o) := by
 refine ⟨?_, h⟩
 have : (!Nat.beq o 0) = true := by
  cases o with
  | zero => exact absurd rfl ho
  | succ n => rfl
 rw [this]
 exact f_ne (by show a.den E ≠ 0; rw [e]; exact h0)
def xsW (f : Nat → Int) (p : Nat) : Nat → Int
 | 0 => headOf f p
 | i + 1 => (getT f (xsW f p i).toNat).nx
def GdW (f : Nat → Int) (x : Int) : Prop := ∃ t : Nat, T16 t ∧ x = t ∧ RightAt f t
theorem gd_ne {x : Int} (h : GdW f x) : x ≠ 0 := by
 obtain ⟨t, ⟨i, hi, rfl⟩, rfl, _⟩ := h
 unfold t16
 omega
theorem gd_nx {x : Int} (h : GdW f x) : 0 ≤ (getT f x.toNat).nx ∧ (getT f x.toNat).nx < 65536 := by
 obtain ⟨t, _, rfl, hr⟩ := h
 rw [Int.toNat_natCast]
 exact (getT_right hr).nx
def pls16 : List Nat := (List.range 16).map t16
theorem gd_all {p : Nat} (h : ∀ i, i < 17 → GdW f (xsW f p i)) : ∀ i, GdW f (xsW f p i) := by
 have key : ∃ i j, i < j ∧ j < 17 ∧ xsW f p i = xsW f p j := by
  refine Classical.byContradiction fun hn => ?_
  have hnd : ((List.range 17).map fun i => (xsW f p i).toNat).Nodup := by
   refine List.pairwise_iff_getElem.2 fun i j hi hj hlt => ?_
   have hi : i < 17 := by simpa using hi
   have hj : j < 17 := by simpa using hj
   simp only [List.getElem_map, List.getElem_range]
   intro e
   refine hn ⟨i, j, hlt, hj, ?_⟩
   obtain ⟨a, _, ea, _⟩ := h i hi
   obtain ⟨b, _, eb, _⟩ := h j hj
   rw [ea, eb, Int.toNat_natCast, Int.toNat_natCast] at e
   rw [ea, eb, e]
  have := len_le (S := pls16) hnd fun x hx => by
   obtain ⟨i, hi, rfl⟩ := List.mem_map.1 hx
   obtain ⟨a, ⟨k, hk, rfl⟩, ea, _⟩ := h i (by simpa using hi)
   rw [ea]
   exact List.mem_map.2 ⟨k, by simpa using hk, by simp⟩
  simp [pls16] at this
 obtain ⟨i, j, hij, hj, e⟩ := key
 have per : ∀ k, xsW f p (i + k) = xsW f p (j + k) := fun k => by
  induction k with
  | zero => exact e
  | succ k ih =>
   show (getT f (xsW f p (i + k)).toNat).nx = (getT f (xsW f p (j + k)).toNat).nx
   rw [ih]
 intro m
 induction m using Nat.strongRecOn with
 | _ m ih =>
  by_cases hm : m < 17
  ·exact h m hm
  ·have := per (m - j)
   rw [show j + (m - j) = m from by omega] at this
   rw [← this]
   exact ih (i + (m - j)) (by omega)
theorem least {G : Nat → Prop} : ∀ N, (∀ i, i < N → G i) ∨ ∃ n, n < N ∧ ¬ G n ∧ ∀ i, i < n → G i
 | 0 => .inl fun i h => absurd h (by omega)
 | N + 1 => by
  rcases least (G := G) N with h | ⟨n, h1, h2, h3⟩
  ·by_cases hN : G N
   ·refine .inl fun i hi => ?_
    by_cases e : i = N
    ·rw [e]; exact hN
    ·exact h i (by omega)
   ·exact .inr ⟨N, by omega, hN, h⟩
  ·exact .inr ⟨n, by omega, h2, h3⟩
structure TlW (vs : Nat → Int) (f : Nat → Int) (p : Nat) : Prop where
 h : vs 450 = xsW f p 0
 t : ∀ i j, i < 35 → j < 30 → vs (800 + 40 * i + j) = fldT (getT f (xsW f p i).toNat) (regs f (xsW f p i).toNat) j
theorem symW_den {p : Nat} (h : TlW vs f p) (hE : AgV E vs) : ∀ {i : Nat}, i < 35 → (symW i).den E = xsW f p i
 | 0, _ => (hE 450 (by omega) (by omega)).trans h.h
 | i + 1, hi => by
  show E.i (805 + 40 * i) = _
  rw [hE _ (by omega) (by omega), show 805 + 40 * i = 800 + 40 * i + 5 from by omega, h.t i 5 (by omega) (by omega)]
  rfl
theorem thW_ch {p : Nat} (h : TlW vs f p) {z : Nat → Bool} : ∀ (m i : Nat), i + m ≤ 34 → (∀ k, i ≤ k → k < i + m → GdW f (xsW f p k) ∧ (z k = true → xsW f p (k + 1) = 0)) → ChB vs ((rngF i m).map fun k => thW k (z k)) f f
 | 0, i, _, _ => ChB.nil f
 | m + 1, i, hi, hg => by
  obtain ⟨hgi, hz⟩ := hg i (by omega) (by omega)
  obtain ⟨t, hT, hx, hr⟩ := hgi
  have hfl : ∀ E, AgV E vs → ∀ j, j < 30 → E.i (800 + 40 * i + j) = fldT (getT f t) (regs f t) j := fun E hE j hj => by
   rw [hE _ (by omega) (by omega), h.t i j (by omega) hj, hx, Int.toNat_natCast]
  refine ChB.cons (k := 20) (by omega) (by omega) (thr_u hT hr) (fun E hE ρ => arg1 (vsi ?_)) (fun E hE ρ => ?_) (thW_ch h m (i + 1) (by omega) fun k h1 h2 => hg k (by omega) (by omega))
  ·rw [symW_den h hE (by omega), hx]
  ·have hfl := hfl E hE
   refine tupT (tA_ok (vsi (hfl 0 (by omega))) ?_ ?_ ?_ ?_ ?_ ?_ ?_ ?_ ?_ ?_ ?_ ?_ ?_ fun j hj => hfl j hj)
   ·exact vsi ((congrArg E.i (by omega : 801 + 40 * i = 800 + 40 * i + 1)).trans (hfl 1 (by omega)))
   ·exact vsi ((congrArg E.i (by omega : 802 + 40 * i = 800 + 40 * i + 2)).trans (hfl 2 (by omega)))
   ·exact vsb (sbq ((congrArg E.i (by omega : 803 + 40 * i = 800 + 40 * i + 3)).trans (hfl 3 (by omega))))
   ·exact vsi ((congrArg E.i (by omega : 804 + 40 * i = 800 + 40 * i + 4)).trans (hfl 4 (by omega)))
   ·cases hzz : z i with
    | true =>
     have := hz hzz
     show Value.int .i64 0 = _
     have e : (getT f t).nx = xsW f p (i + 1) := by
      show _ = (getT f (xsW f p i).toNat).nx
      rw [hx, Int.toNat_natCast]
     rw [e, this]
    | false => exact vsi ((congrArg E.i (by omega : 805 + 40 * i = 800 + 40 * i + 5)).trans (hfl 5 (by omega)))
   ·exact vsi ((congrArg E.i (by omega : 806 + 40 * i = 800 + 40 * i + 6)).trans (hfl 6 (by omega)))
   ·exact vsi ((congrArg E.i (by omega : 807 + 40 * i = 800 + 40 * i + 7)).trans (hfl 7 (by omega)))
   ·exact vsb (sbq ((congrArg E.i (by omega : 808 + 40 * i = 800 + 40 * i + 8)).trans (hfl 8 (by omega))))
   ·exact vsb (sbq ((congrArg E.i (by omega : 809 + 40 * i = 800 + 40 * i + 9)).trans (hfl 9 (by omega))))
   ·exact vsi ((congrArg E.i (by omega : 810 + 40 * i = 800 + 40 * i + 10)).trans (hfl 10 (by omega)))
   ·exact vsi ((congrArg E.i (by omega : 811 + 40 * i = 800 + 40 * i + 11)).trans (hfl 11 (by omega)))
   ·exact vsi ((congrArg E.i (by omega : 812 + 40 * i = 800 + 40 * i + 12)).trans (hfl 12 (by omega)))
   ·exact vsi ((congrArg E.i (by omega : 813 + 40 * i = 800 + 40 * i + 13)).trans (hfl 13 (by omega)))
def CaseOk (cp n e : Nat) : Prop := ((cp = 0 ∨ cp = 1) ∧ n = 0 ∧ e = 0) ∨ (cp = 2 ∧ n < 17 ∧ e < 5) ∨ (cp = 2 ∧ n = 34 ∧ e = 5)
theorem wait_ex (hw : WA f) {p : Nat} : ∃ n e : Nat, CaseOk 2 n e ∧ (e = 0 → n = 0 → xsW f p 0 = 0) ∧ ∀ vs, TlW vs f p → ChB vs (chW n e) f f ∧ ∀ E, AgV E vs → FsOk E (fsW n e) := by
 have neq : ∀ {vs : Nat → Int}, TlW vs f p → ∀ {E : Env}, AgV E vs → ∀ n, n ≤ 34 → (∀ i, i < n → GdW f (xsW f p i)) → FsOk E ((rng n).map (fun i => (.cmp .neq (symW i) (.lit 0), true))) := fun h E hE n hn hg =>
  fs_map n 0 fun k h1 h2 => f_ne (by rw [symW_den h hE (by omega)]; exact gd_ne (hg k (by omega)))
 rcases least (G := fun i => GdW f (xsW f p i)) 17 with hall | ⟨n, hn, hbad, hg⟩
 ·have hg := gd_all hall
  refine ⟨34, 5, .inr (.inr ⟨rfl, rfl, rfl⟩), fun h => by omega, fun vs h => ⟨thW_ch h (z := fun _ => false) 34 0 (by omega) fun k _ _ => ⟨hg k, fun h => by cases h⟩, fun E hE => fs_app (neq h hE 34 (by omega) fun i _ => hg i) trivial⟩⟩
 ·have hr : 0 ≤ xsW f p n ∧ xsW f p n < 65536 := by
   cases n with
   | zero => exact (ends_lt f p).1
   | succ k => exact gd_nx (hg k (by omega))
  by_cases h0 : xsW f p n = 0
  ·refine ⟨n, 0, .inr (.inl ⟨rfl, hn, by omega⟩), fun _ e => by subst e; exact h0, fun vs h => ⟨thW_ch h (z := fun i => Nat.beq (i + 1) n) n 0 (by omega) fun k _ h2 => ⟨hg k (by omega), fun e => ?_⟩, fun E hE => fs_app (neq h hE n (by omega) hg) trivial⟩⟩
   have e : k + 1 = n := by simpa using e
   rw [e]; exact h0
  by_cases hT : ∃ t : Nat, T16 t ∧ xsW f p n = t
  ·obtain ⟨t, hT, hx⟩ := hT
   have hnr : ¬ RightAt f t := fun hr => hbad ⟨t, hT, hx, hr⟩
   refine ⟨n, 4, .inr (.inl ⟨rfl, hn, by omega⟩), fun h => by omega, fun vs h => ⟨chB_app (thW_ch h (z := fun _ => false) n 0 (by omega) fun k _ h2 => ⟨hg k (by omega), fun h => by cases h⟩) (ChB.cons (k := 4) (by omega) (by omega) (bad_u hT hw hnr) (fun E hE ρ => arg1 (vsi (by rw [symW_den h hE (by omega), hx]))) (fun E hE ρ => rfl) (ChB.nil f)), fun E hE => fs_app (neq h hE n (by omega) hg) (tfs_ok (by omega) (symW_den h hE (by omega)) h0 trivial)⟩⟩
  ·obtain ⟨o, ho, hfo⟩ := nob_ex (x := xsW f p n) (by unfold I64; omega) hT
   have fin : ∀ o, (o = 1 ∨ o = 2 ∨ o = 3) → (∀ (E : Env) (a : SE), a.den E = xsW f p n → FsOk E (tfs a o).tail) → chW n o = (rng n).map (fun i => thW i false) → fsW n o = (rng n).map (fun i => (.cmp .neq (symW i) (.lit 0), true)) ++ tfs (symW n) o → ∃ n e : Nat, CaseOk 2 n e ∧ (e = 0 → n = 0 → xsW f p 0 = 0) ∧ ∀ vs, TlW vs f p → ChB vs (chW n e) f f ∧ ∀ E, AgV E vs → FsOk E (fsW n e) := fun o ho hfo e1 e2 =>
    ⟨n, o, .inr (.inl ⟨rfl, hn, by omega⟩), fun h => by omega, fun vs h => ⟨by rw [e1]; exact thW_ch h (z := fun _ => false) n 0 (by omega) fun k _ h2 => ⟨hg k (by omega), fun h => by cases h⟩, fun E hE => by
     rw [e2]
     exact fs_app (neq h hE n (by omega) hg) (tfs_ok (by omega) (symW_den h hE (by omega)) h0 (hfo E _ (symW_den h hE (by omega))))⟩⟩
   rcases ho with rfl | rfl | rfl
   ·exact fin 1 (by omega) hfo rfl rfl
   ·exact fin 2 (by omega) hfo rfl rfl
   ·exact fin 3 (by omega) hfo rfl rfl
def vsV (base : Nat → Int) (r1 r2 r3 r4 : Int) (f : Nat → Int) (p : Nat) (i : Nat) : Int :=
 if i < 300 then base i else if i = 301 then r1 else if i = 302 then r2 else if i = 303 then r3 else if i = 304 then r4 else if i = 450 then xsW f p 0
 else fldT (getT f (xsW f p ((i - 800) / 40)).toNat) (regs f (xsW f p ((i - 800) / 40)).toNat) ((i - 800) % 40)
theorem vsV_tl {base : Nat → Int} {r1 r2 r3 r4 : Int} {p : Nat} : TlW (vsV base r1 r2 r3 r4 f p) f p := ⟨rfl, fun i j hi hj => by
 unfold vsV
 rw [if_neg (by omega), if_neg (by omega), if_neg (by omega), if_neg (by omega), if_neg (by omega), if_neg (by omega), show (800 + 40 * i + j - 800) / 40 = i from by omega, show (800 + 40 * i + j - 800) % 40 = j from by omega]⟩
theorem calls_ex (hw : WA f) {a : Int} (ha : I64 a) : ∃ (ca : Nat) (r1 r2 r3 : Int) (f' : Nat → Int), ca < 4 ∧ WA f' ∧ ∀ vs : Nat → Int, vs 20 = a → (vs 301 = r1 ∧ vs 302 = r2 ∧ vs 303 = r3) → ChB vs (chA ca) f f' ∧ ∀ E, AgV E vs → FsOk E (fsA ca) := by
 by_cases h : ∃ t : Nat, T16 t ∧ a = t
 ·obtain ⟨t, hT, rfl⟩ := h
  obtain ⟨k1, r1, f1, a1, b1, w1, c1⟩ := push_u hT hw false
  obtain ⟨k2, r2, f2, a2, b2, w2, c2⟩ := drop_u hT w1
  obtain ⟨k3, r3, f3, a3, b3, w3, c3⟩ := push_u hT w2 true
  refine ⟨0, r1, r2, r3, f3, by omega, w3, fun vs h20 ⟨v1, v2, v3⟩ => ⟨?_, fun E hE => trivial⟩⟩
  have e20 : ∀ E, AgV E vs → ∀ ρ, γL E ρ [.si .i64 (.v 20)] = [.int .i64 (t : Nat)] := fun E hE ρ => arg1 (vsi ((hE 20 (by omega) (by omega)).trans h20))
  exact ChB.cons a1 b1 c1 e20 (fun E hE ρ => vsi ((hE 301 (by omega) (by omega)).trans v1)) (ChB.cons a2 b2 c2 e20 (fun E hE ρ => vsi ((hE 302 (by omega) (by omega)).trans v2)) (ChB.cons a3 b3 c3 e20 (fun E hE ρ => vsi ((hE 303 (by omega) (by omega)).trans v3)) (ChB.nil _)))
 ·obtain ⟨o, ho, hfo⟩ := nob_ex ha h
  refine ⟨o, 0, 0, 0, f, by omega, hw, fun vs h20 _ => ⟨?_, fun E hE => hfo E (.v 20) ((hE 20 (by omega) (by omega)).trans h20)⟩⟩
  rcases ho with rfl | rfl | rfl <;> exact ChB.nil f
theorem gt_add {x : SE} {i k : Nat} (h : E.i (9000 + i) = (k : Nat)) (hk : k ≤ 200) : (gtS (addS x i) x).1.den E = (gtS (addS x i) x).2 := by
 refine f_gtn ?_
 show wrapF .i64 (wrapF .i64 (x.den E + E.i (9000 + i)) - x.den E) ≤ (200 : Int)
 rw [h, wrapF_eq, wrapF_eq, IntKind.wrap_i64, IntKind.wrap_i64]
 omega
theorem gt_same {x : SE} : (gtS x x).1.den E = (gtS x x).2 := by
 refine f_gtn ?_
 show wrapF .i64 (x.den E - x.den E) ≤ (200 : Int)
 rw [wrapF_eq, IntKind.wrap_i64]
 omega
theorem fsS_ok {a p : Nat} {ks : Nat → Nat} {n : Nat} (hks : ∀ j, ks j ≤ 200) (hk : ∀ j, 100 ≤ j → j < 100 + n → E.i (9000 + j) = (ks j : Nat)) (h1 : a = 0 → p = 2 → 5 ≤ n) (h2 : a = 0 → 4 ≤ n) (h3 : p = 2 → 2 ≤ n) (h4 : 1 ≤ n) : FsOk E (fsS a p) := by
 have g : ∀ {x : SE} {j : Nat}, 100 ≤ j → j < 100 + n → (gtS (addS x j) x).1.den E = (gtS (addS x j) x).2 := fun {x j} b1 b2 => gt_add (hk j b1 b2) (hks j)
 by_cases ha : a = 0
 ·subst ha
  have := h2 rfl
  by_cases hp : p = 2
  ·subst hp
   have := h1 rfl rfl
   exact ⟨@g _ 100 (by omega) (by omega), @g _ 101 (by omega) (by omega), @g _ 102 (by omega) (by omega), @g _ 103 (by omega) (by omega), @g _ 104 (by omega) (by omega), trivial⟩
  ·have e : Nat.beq p 2 = false := by rw [Bool.eq_false_iff]; simpa using hp
   unfold fsS
   rw [e]
   exact ⟨@g _ 100 (by omega) (by omega), @g _ 101 (by omega) (by omega), @g _ 102 (by omega) (by omega), gt_same, @g _ 103 (by omega) (by omega), trivial⟩
 ·have e0 : Nat.beq a 0 = false := by rw [Bool.eq_false_iff]; simpa using ha
  unfold fsS stS0
  rw [e0]
  by_cases hp : p = 2
  ·subst hp
   have := h3 rfl
   exact ⟨gt_same, gt_same, gt_same, @g _ 100 (by omega) (by omega), @g _ 101 (by omega) (by omega), trivial⟩
  ·have e : Nat.beq p 2 = false := by rw [Bool.eq_false_iff]; simpa using hp
   rw [e]
   exact ⟨gt_same, gt_same, gt_same, gt_same, @g _ 100 (by omega) (by omega), trivial⟩
theorem end_ex (hw : WA f) {a p : Int} (ha : I64 a) (hp : I64 p) (base : Nat → Int) (h20 : base 20 = a) (h21 : base 21 = p) : ∃ (ca cp n e : Nat) (vs : Nat → Int) (ks : Nat → Nat) (rows : Nat → Nat → Int), ca < 4 ∧ CaseOk cp n e ∧ (∀ i, i < 300 → vs i = base i) ∧ rows 100 = f ∧
  ∀ E : Env, AgV E vs → (∀ j, 100 ≤ j → j < 200 → E.i (9000 + j) = (ks j : Nat)) → (∀ j, 100 ≤ j → j < 200 → WordsIs (E.s j).cs 2048 (rows j)) → EntsOk PP cP E 100 (entS 100 (chV ca cp n e)) ∧ FsOk E (fsV ca cp n e) := by
 obtain ⟨ca, r1, r2, r3, f', hca, hw', hcalls⟩ := calls_ex hw ha
 obtain ⟨kh, rh, hk1, hk3, chi⟩ := high_u hw'
 have lenA : (chA ca).length = (if ca = 0 then 3 else 0) := by
  match ca, hca with
  | 0, _ => rfl
  | 1, _ => rfl
  | 2, _ => rfl
  | 3, _ => rfl
 by_cases hpr : 0 ≤ p ∧ p < 256
 ·obtain ⟨q, rfl⟩ := Int.eq_ofNat_of_zero_le hpr.1
  have hq : q < 256 := by omega
  obtain ⟨n, e, hcase, h00, hwait⟩ := wait_ex hw' (p := q)
  obtain ⟨kf, ⟨kf1, kf2⟩, cf⟩ := fronts_p hq (hw' (256 + q))
  obtain ⟨vs, hvs⟩ : ∃ vs, vs = vsV base r1 r2 r3 rh f' q := ⟨_, rfl⟩
  have htl : TlW vs f' q := by rw [hvs]; exact vsV_tl
  have hb : ∀ i, i < 300 → vs i = base i := fun i hi => by rw [hvs]; unfold vsV; rw [if_pos hi]
  have v20 : vs 20 = a := (hb 20 (by omega)).trans h20
  have v21 : vs 21 = q := (hb 21 (by omega)).trans h21
  obtain ⟨cA, fA⟩ := hcalls vs v20 (by rw [hvs]; exact ⟨rfl, rfl, rfl⟩)
  obtain ⟨cW, fW⟩ := hwait vs htl
  have cF : ChB vs (chG 2 n e) f' f' := by
   refine ChB.cons kf1 (by omega) cf (fun E hE ρ => arg1 (vsi ((hE 21 (by omega) (by omega)).trans v21))) (fun E hE ρ => ?_) (ChB.nil f')
   show (hdV n e).γ E ρ = _
   unfold hdV
   cases hc : (Nat.beq e 0 && Nat.beq n 0) with
   | true =>
    simp only [Bool.and_eq_true, Nat.beq_eq] at hc
    show Value.int .i64 0 = Value.int .i64 (headOf f' q)
    rw [show headOf f' q = 0 from h00 hc.1 hc.2]
   | false => exact vsi ((hE 450 (by omega) (by omega)).trans htl.h)
  have cH : ChB vs [hgS] f' f' := ChB.cons hk1 (by omega) chi (fun E hE ρ => rfl) (fun E hE ρ => vsi ((hE 304 (by omega) (by omega)).trans (by rw [hvs]; rfl))) (ChB.nil f')
  have call : ChB vs (chV ca 2 n e) f f' := chB_app cA (chB_app cF (chB_app cH (chB_app cF cW)))
  obtain ⟨ks, rows, r0, hks, hall⟩ := chB_env call 100
  have lenW : (chW n e).length ≤ 34 := by
   have hm : ∀ m i (g : Nat → Sh), ((rngF i m).map g).length = m := fun m => by
    induction m with
    | zero => exact fun i g => rfl
    | succ m ih => exact fun i g => by show ((rngF (i + 1) m).map g).length + 1 = m + 1; rw [ih]
   rcases hcase with ⟨h, _⟩ | ⟨_, h1, h2⟩ | ⟨_, h1, h2⟩
   ·omega
   ·match e, h2 with
    | 0, _ => rw [show (chW n 0).length = n from hm _ _ _]; omega
    | 1, _ => rw [show (chW n 1).length = n from hm _ _ _]; omega
    | 2, _ => rw [show (chW n 2).length = n from hm _ _ _]; omega
    | 3, _ => rw [show (chW n 3).length = n from hm _ _ _]; omega
    | 4, _ => rw [show (chW n 4).length = n + 1 from (List.length_append ..).trans (congrArg (· + 1) (hm _ _ _))]; omega
   ·subst h1 h2
    rw [show (chW 34 5).length = 34 from hm _ _ _]; omega
  have hlen : (chV ca 2 n e).length = (if ca = 0 then 3 else 0) + (3 + (chW n e).length) := by
   show (chA ca ++ (_ ++ (_ :: (_ ++ chW n e)))).length = _
   rw [List.length_append, lenA]
   simp [chG]
   omega
  have hl40 : (chV ca 2 n e).length ≤ 40 := by rw [hlen]; split <;> omega
  refine ⟨ca, 2, n, e, vs, ks, rows, hca, hcase, hb, r0, fun E hE hk hr => ⟨hall E hE (fun j h1 h2 => hk j h1 (by omega)) (fun j h1 h2 => hr j h1 (by omega)), fs_app (fA E hE) (fs_app trivial (fs_app (fsS_ok (n := (chV ca 2 n e).length) hks (fun j h1 h2 => hk j h1 (by omega)) (fun h _ => by rw [hlen, if_pos h]; omega) (fun h => by rw [hlen, if_pos h]; omega) (fun _ => by rw [hlen]; omega) (by rw [hlen]; omega)) (fW E hE)))⟩⟩
 ·obtain ⟨vs, hvs⟩ : ∃ vs, vs = vsV base r1 r2 r3 rh f' 0 := ⟨_, rfl⟩
  have hb : ∀ i, i < 300 → vs i = base i := fun i hi => by rw [hvs]; unfold vsV; rw [if_pos hi]
  have v20 : vs 20 = a := (hb 20 (by omega)).trans h20
  have v21 : vs 21 = p := (hb 21 (by omega)).trans h21
  obtain ⟨cA, fA⟩ := hcalls vs v20 (by rw [hvs]; exact ⟨rfl, rfl, rfl⟩)
  have cH : ChB vs [hgS] f' f' := ChB.cons hk1 (by omega) chi (fun E hE ρ => rfl) (fun E hE ρ => vsi ((hE 304 (by omega) (by omega)).trans (by rw [hvs]; rfl))) (ChB.nil f')
  have fin : ∀ cp, (cp = 0 ∨ cp = 1) → chV ca cp 0 0 = chA ca ++ [hgS] → fsV ca cp 0 0 = fsA ca ++ (fsP cp ++ (fsS ca cp ++ [])) → (∀ E, AgV E vs → FsOk E (fsP cp)) → ∃ (ca cp n e : Nat) (vs : Nat → Int) (ks : Nat → Nat) (rows : Nat → Nat → Int), ca < 4 ∧ CaseOk cp n e ∧ (∀ i, i < 300 → vs i = base i) ∧ rows 100 = f ∧
    ∀ E : Env, AgV E vs → (∀ j, 100 ≤ j → j < 200 → E.i (9000 + j) = (ks j : Nat)) → (∀ j, 100 ≤ j → j < 200 → WordsIs (E.s j).cs 2048 (rows j)) → EntsOk PP cP E 100 (entS 100 (chV ca cp n e)) ∧ FsOk E (fsV ca cp n e) := fun cp hcp e1 e2 hfp => by
   have call : ChB vs (chV ca cp 0 0) f f' := by rw [e1]; exact chB_app cA cH
   obtain ⟨ks, rows, r0, hks, hall⟩ := chB_env call 100
   have hlen : (chV ca cp 0 0).length = (if ca = 0 then 3 else 0) + 1 := by rw [e1, List.length_append, lenA]; rfl
   have hl40 : (chV ca cp 0 0).length ≤ 40 := by rw [hlen]; split <;> omega
   refine ⟨ca, cp, 0, 0, vs, ks, rows, hca, .inl ⟨hcp, rfl, rfl⟩, hb, r0, fun E hE hk hr => ⟨hall E hE (fun j h1 h2 => hk j h1 (by omega)) (fun j h1 h2 => hr j h1 (by omega)), ?_⟩⟩
   rw [e2]
   exact fs_app (fA E hE) (fs_app (hfp E hE) (fs_app (fsS_ok (n := (chV ca cp 0 0).length) hks (fun j h1 h2 => hk j h1 (by omega)) (fun h h2 => by omega) (fun h => by rw [hlen, if_pos h]; omega) (fun h => by omega) (by rw [hlen]; omega)) trivial))
  by_cases h0 : 0 ≤ p
  ·exact fin 1 (by omega) rfl rfl fun E hE => ⟨f_ge (by show (0 : Int) ≤ E.i 21; rw [hE 21 (by omega) (by omega), v21]; exact h0), f_ltn (by show (256 : Int) ≤ E.i 21; rw [hE 21 (by omega) (by omega), v21]; omega), trivial⟩
  ·exact fin 0 (by omega) rfl rfl fun E hE => ⟨f_gen (by show E.i 21 < (0 : Int); rw [hE 21 (by omega) (by omega), v21]; omega), trivial⟩
end Go.Ev.X
end
