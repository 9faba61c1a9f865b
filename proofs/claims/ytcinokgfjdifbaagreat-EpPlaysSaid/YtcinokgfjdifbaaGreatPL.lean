import Derived.Test.YtcinokgfjdifbaaGreatAG
import Derived.Test.YtcinokgfjdifbaaGreatCLs
import Derived.Test.YtcinokgfjdifbaaGreatPQz
set_option linter.unusedSimpArgs false
set_option linter.unusedVariables false
set_option maxRecDepth 100000
noncomputable section
namespace Go.Ev.X
open Go Go.Ev Go.Proofs
variable {E : Env} {f f' : Nat -> Int}
def lawP : LawA := ⟨5, 100, [], 5, tlP, tlR, fsT, fun _ => true, fun _ => [], fun _ => [], fun _ => []⟩
def vsT (f : Nat -> Int) (w : Int) (l : List Nat) (i : Nat) : Int := if i = 700 then stQ w else if i = 701 then hdQ w else if i = 702 then tlQ w else ym (za f (l.getD ((i - 1000) / 40) 0)) (zq f (l.getD ((i - 1000) / 40) 0)) ((i - 1000) % 40)
theorem tail_ok : TailOk lawP := fun f x hf => by
 obtain ⟨Q, P, c, L, S, h⟩ := hf
 have he := epA_e x
 obtain ⟨w1, w2, w3, w4, w5⟩ := jI z4 h he
 have hlT : ∀ u ∈ L (epA x), T4 u := fun u hu => (h.w _ u he hu).1
 have hlr : ∀ u ∈ L (epA x), RightAt f u := fun u hu => (h.w _ u he hu).2.1
 have hl0 : ∀ u ∈ L (epA x), u ≠ 0 := fun u hu => by have := zad z4 h he u hu; omega
 have hn4 := len4 (h.nd _ he) hlT
 refine ⟨(L (epA x)).length, vsT f (f (epA x)) (L (epA x)), by show _ < 5; omega, fun vs hvs hac => ?_⟩
 have v700 : vs 700 = stQ (f (epA x)) := hvs 700 (by omega)
 have v701 : vs 701 = hdQ (f (epA x)) := hvs 701 (by omega)
 have v702 : vs 702 = tlQ (f (epA x)) := hvs 702 (by omega)
 have lv : LsV vs 701 f (L (epA x)) := ⟨by omega, by rw [v701, w2], fun i hi => ⟨by omega, by omega, fun j hj => by
  rw [hvs _ (by omega)]
  unfold vsT
  rw [if_neg (by omega), if_neg (by omega), if_neg (by omega), show (1000 + 40 * i + j - 1000) / 40 = i from by omega, show (1000 + 40 * i + j - 1000) % 40 = j from by omega]⟩⟩
 have hk := h.lk _ he
 have ae := zhX hac
 refine ⟨za8 yP he (zbl h he) ae (by omega) v700 v701 v702 (zbE (zfU yP lv hk hlT hlr _ 0 (by omega)) (za8 yP he (zbl h he) ae (by omega) v700 v701 v702 (z7 f))), za8 yr he (zbl h he) ae (by omega) v700 v701 v702 (zfU yr lv hk hlT hlr _ 0 (by omega)), fun E hE => zab (zdK lv hk hl0 hE) ⟨zac rfl, yA rfl, zgp _ _ fun k h1 h2 => yA rfl⟩⟩
theorem lawP_ok : LawOk lawP fun _ => 0 := by
 refine ⟨by decide, fun i hi => absurd hi List.not_mem_nil, fun n hn => ?_, fun d hd => by show 0 <= 70; omega, tail_ok, fun f base hf _ => ⟨0, f, rfl, base, fun _ _ => rfl, z7 f, z7 f, z7 f, z7 f, fun E hE => ⟨trivial, trivial⟩⟩⟩
 have hn : n < 5 := hn
 have : zR (fun n => Nat.ble (tlP n).length 70 && Nat.ble (tlR n).length 70) (rng 5) = true := by decide +kernel
 have := rng_ok this n hn
 simp only [Bool.and_eq_true, Nat.ble_eq] at this
 exact this
theorem cxP_ok {c n : Nat} {f' : Nat -> Int} (h : LiveC (shP c) (lawP.tP n) (shR c) (lawP.tR n) psA (lawP.lf c n) f' f' f' f' E) : CxOk E PP (zP PP) (cxP c n) := by
 refine zo4 (cxW_ok (zkL (jv (hC0 E) 20) (zkL (jv (hC0 E) 20) (zkK (es := []) (hC0 E) trivial (zn h.ps)) h.ep) h.er) (zqd (by omega) Tryz.call80 (fun b off n c zs w hz hb hc => clone_c b off n c zs w hz hb hc) fun q hq => ⟨f', ?_⟩) (zqr (by omega) Tryz.call44 @same44 fun q q' hq => ⟨f', ?_⟩))
 ·have : q = rpA c := by simpa using hq
  rw [this]; exact h.wm
 ·have : q = rpA c /\ q' = rrA c := by simpa using hq
  rw [this.1, this.2]; exact ⟨h.wm, h.wm'⟩
theorem goP_ok {c n : Nat} (hc : c < 15) (hn : n < 5) : goP c n = 0 := by
 have go : ∀ {n : Nat}, zR (fun c => Nat.beq (goP c n) 0) (rng 15) = true -> goP c n = 0 := fun {n} hr => Nat.eq_of_beq_eq_true (rng_ok hr c hc)
 match n, hn with
 | 0, _ => exact go goP0
 | 1, _ => exact go goP1
 | 2, _ => exact go goP2
 | 3, _ => exact go goP3
 | 4, _ => exact go goP4
theorem plays_any {r : Row} {D : Nat -> Act} (hD : RowA r D) {W : World} (hW : W.heap[r.b]? = some (.cells r.cs r.t r.fz)) :
  Calls PP 5 #[.slice (some ⟨r.b, r.off, none⟩) r.len r.cap] W fun e w' => e = .returned (.bool true) /\ RowKit.Below W.heap.size W w' :=
 zue lawP_ok Tryz.func5 qcp w5 (st := frP) (gT := cxP) (gE := fun _ => cx0) (fun c n f' E hc hn h => cxP_ok h) (fun d fp fr E hd h => hC0 E) (fun c n hc hn => goP_ok hc hn) (fun b d hd => match b with | true => zoy.1 | false => zoy.2) inP_ok hD hW
theorem nilP_ok : ze9 cx0 0 (zhl ab (zn1 zf1)) 5 [.snil] ⟨.h, .h, .e⟩ ⟨[], []⟩ (endV (.b true)) = 0 := by decide +kernel
theorem plays_nil (W : World) : Calls PP 5 #[.slice none 0 0] W fun e w' => e = .returned (.bool true) /\ RowKit.Below W.heap.size W w' := by
 obtain ⟨E, hE⟩ : ∃ E : Env, E = ⟨fun _ => 0, fun _ => false, fun q => zfo 8192 f0⟩ := ⟨_, rfl⟩
 have := zd8 (hC0 E) (msS_ok rfl abt FaOk.nil (zdA (zdp E)) (zjj (zdA (zdp E)))) FaOk.nil nilP_ok (l := [.snil]) ⟨trivial, trivial⟩ (fun _ => ⟨0, 0⟩) W
 exact this.mono fun e w' h => by
  obtain ⟨⟨ρ', h1⟩, h2⟩ := h
  exact ⟨h1, h2⟩
end Go.Ev.X
end
