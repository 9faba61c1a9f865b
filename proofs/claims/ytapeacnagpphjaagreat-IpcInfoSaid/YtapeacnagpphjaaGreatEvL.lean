/-
  An operation hands on one value and one heap, whatever comes behind it.
-/
import Derived.Test.YtapeacnagpphjaaGreatEvJ
set_option linter.unusedSimpArgs false
set_option linter.unusedVariables false
noncomputable section
namespace Go.Ev
open Go
/-- it fails, or hands on one value and one heap -/
def Par (f : KV → Nat → Nat) : Prop := (∀ k e, f k e = e) ∨ ∃ v h', ∀ k e, f k e = k v h'
theorem par_e : Par (fun _ e => e) := .inl fun _ _ => rfl
theorem par_k (v : V) (h : H) : Par (fun k _ => k v h) := .inr ⟨v, h, fun _ _ => rfl⟩
theorem par_oc {α : Type} {x : Option α} {f : α → KV → Nat → Nat} (hf : ∀ a, Par (fun k e => f a k e)) : Par (fun k e => oc x (fun a => f a k e) e) := by
  cases x with
  | none => exact par_e
  | some a => exact hf a
theorem par_bc {b : Bool} {f g : KV → Nat → Nat} (hf : Par (fun k e => f k e)) (hg : Par (fun k e => g k e)) : Par (fun k e => bc b (f k e) (g k e)) := by
  cases b with
  | true => exact hf
  | false => exact hg
theorem par_vPtr {x : Option V} {f : Ev.P → Nat → KV → Nat → Nat} (hf : ∀ a b, Par (fun k e => f a b k e)) : Par (fun k e => vPtr x (fun a b => f a b k e) e) := by
  rcases x with _ | v
  · exact par_e
  · cases v <;> first | exact par_e | exact hf _ _
theorem par_vSl {x : Option V} {f : Ev.P → Nat → Nat → KV → Nat → Nat} (hf : ∀ a b c, Par (fun k e => f a b c k e)) : Par (fun k e => vSl x (fun a b c => f a b c k e) e) := by
  rcases x with _ | v
  · exact par_e
  · cases v <;> first | exact par_e | exact hf _ _ _
theorem par_vAgg {x : Option V} {f : List V → KV → Nat → Nat} (hf : ∀ a, Par (fun k e => f a k e)) : Par (fun k e => vAgg x (fun a => f a k e) e) := by
  rcases x with _ | v
  · exact par_e
  · cases v <;> first | exact par_e | exact hf _
theorem par_vTup {x : Option V} {f : List V → KV → Nat → Nat} (hf : ∀ a, Par (fun k e => f a k e)) : Par (fun k e => vTup x (fun a => f a k e) e) := by
  rcases x with _ | v
  · exact par_e
  · cases v <;> first | exact par_e | exact hf _
theorem par_vLit {x : Option V} {f : Int → KV → Nat → Nat} (hf : ∀ a, Par (fun k e => f a k e)) : Par (fun k e => vLit x (fun a => f a k e) e) := by
  rcases x with _ | v
  · exact par_e
  · cases v <;> first | exact par_e | exact hf _
theorem par_hset {h : H} {id : Ev.P} {o : O} {f : H → KV → Nat → Nat} (hf : ∀ h, Par (fun k e => f h k e)) : Par (fun k e => hset h id o (fun h => f h k e)) := by
  have : (fun (k : KV) (e : Nat) => hset h id o (fun h => f h k e)) = fun k e => f (h.put id o) k e := by funext k e; rw [hset_eq]
  rw [this]; exact hf _
theorem par_hnew {h : H} {o : O} {f : Ev.P → H → KV → Nat → Nat} (hf : ∀ i h, Par (fun k e => f i h k e)) : Par (fun k e => hnew h o (fun i h => f i h k e)) := by
  have : (fun (k : KV) (e : Nat) => hnew h o (fun i h => f i h k e)) = fun k e => f h.n (h.add o) k e := by funext k e; rw [hnew_eq]
  rw [this]; exact hf _ _
theorem par_putN {o : O} {off : Nat} {l : List V} {f : O → KV → Nat → Nat} (hf : ∀ o', Par (fun k e => f o' k e)) : Par (fun k e => putN o off l (fun o' => f o' k e) e) := by
  cases o with
  | cells t c => exact par_oc (f := fun c k e => f (.cells t c) k e) fun c => hf _
  | arr t n d z tr =>
    refine par_bc (f := fun k e => setN d tr off l (fun tr => f (.arr t n d z tr) k e)) (g := fun _ e => e) ?_ par_e
    simp only [setN_eq]; exact hf _
  | vec t x n c => exact par_oc (f := fun c k e => f (.vec t x n c) k e) fun c => hf _
  | varr t n d z tr =>
    refine par_bc (f := fun k e => setN d tr off l (fun tr => f (.varr t n d z tr) k e)) (g := fun _ e => e) ?_ par_e
    simp only [setN_eq]; exact hf _
  | dead => exact par_e
theorem par_put1 {o : O} {off : Nat} {v : V} {f : O → KV → Nat → Nat} (hf : ∀ o', Par (fun k e => f o' k e)) : Par (fun k e => put1 o off v (fun o' => f o' k e) e) := by
  cases o with
  | cells t c => exact par_oc (f := fun c k e => f (.cells t c) k e) fun c => hf _
  | arr t n d z tr =>
    refine par_bc (f := fun k e => tset tr d off v (fun tr => f (.arr t n d z tr) k e)) (g := fun _ e => e) ?_ par_e
    simp only [tset_eq]; exact hf _
  | vec t x n c => exact par_oc (f := fun c k e => f (.vec t x n c) k e) fun c => hf _
  | varr t n d z tr =>
    refine par_bc (f := fun k e => tset tr d off v (fun tr => f (.varr t n d z tr) k e)) (g := fun _ e => e) ?_ par_e
    simp only [tset_eq]; exact hf _
  | dead => exact par_e
theorem par_appV (h : H) (t : TypeId) (esz by_ : Nat) (x y : V) : Par (fun k e => appV h t esz by_ x y k e) := by
  unfold appV
  generalize newOf h esz y = q
  rcases q with _ | ⟨n, l⟩
  · exact par_e
  refine par_bc (par_bc ?_ par_e) par_e
  cases x <;> try exact par_e
  · rename_i id off m c
    refine par_bc (par_bc ?_ par_e) par_e
    generalize hget h id = o
    rcases o with _ | o
    · exact par_e
    generalize hl : loadN o off (m * esz) = q
    simp only [hl]
    rcases q with _ | q
    · exact par_e
    · (repeat' first | exact par_e | exact par_k _ _ | refine par_bc ?_ ?_ | (refine par_oc ?_; intro _) | (refine par_vPtr ?_; intro _ _) | (refine par_vSl ?_; intro _ _ _) | (refine par_vAgg ?_; intro _) | (refine par_vTup ?_; intro _) | (refine par_vLit ?_; intro _) | (refine par_hset ?_; intro _) | (refine par_hnew ?_; intro _ _) | (refine par_putN ?_; intro _) | (refine par_put1 ?_; intro _))
  · rename_i id m
    refine par_bc (par_bc ?_ par_e) par_e
    generalize hget h id = o
    rcases o with _ | o
    · exact par_e
    cases o <;> try exact par_e
    (repeat' first | exact par_e | exact par_k _ _ | refine par_bc ?_ ?_ | (refine par_oc ?_; intro _) | (refine par_vPtr ?_; intro _ _) | (refine par_vSl ?_; intro _ _ _) | (refine par_vAgg ?_; intro _) | (refine par_vTup ?_; intro _) | (refine par_vLit ?_; intro _) | (refine par_hset ?_; intro _) | (refine par_hnew ?_; intro _ _) | (refine par_putN ?_; intro _) | (refine par_put1 ?_; intro _))
  · (repeat' first | exact par_e | exact par_k _ _ | refine par_bc ?_ ?_ | (refine par_oc ?_; intro _) | (refine par_vPtr ?_; intro _ _) | (refine par_vSl ?_; intro _ _ _) | (refine par_vAgg ?_; intro _) | (refine par_vTup ?_; intro _) | (refine par_vLit ?_; intro _) | (refine par_hset ?_; intro _) | (refine par_hnew ?_; intro _ _) | (refine par_putN ?_; intro _) | (refine par_put1 ?_; intro _))
theorem par_cpyO (o o2 : O) (id : Ev.P) (off n off2 n2 esz : Nat) (h : H) : Par (fun k e => cpyO o o2 id off n off2 n2 esz h k e) := by
  unfold cpyO
  generalize loadN o2 off2 ((Nat.min n n2) * esz) = q
  rcases q with _ | q
  · exact par_e
  · (repeat' first | exact par_e | exact par_k _ _ | refine par_bc ?_ ?_ | (refine par_oc ?_; intro _) | (refine par_vPtr ?_; intro _ _) | (refine par_vSl ?_; intro _ _ _) | (refine par_vAgg ?_; intro _) | (refine par_vTup ?_; intro _) | (refine par_vLit ?_; intro _) | (refine par_hset ?_; intro _) | (refine par_hnew ?_; intro _ _) | (refine par_putN ?_; intro _) | (refine par_put1 ?_; intro _))
theorem par_cpyV (h : H) (esz : Nat) (x y : V) : Par (fun k e => cpyV h esz x y k e) := by
  unfold cpyV
  generalize slOf x = p
  generalize slOf y = q
  rcases p with _ | ⟨id, off, n, c⟩
  · exact par_e
  rcases q with _ | ⟨id2, off2, n2, c2⟩
  · exact par_e
  refine par_bc ?_ par_e
  generalize hget h id = o
  generalize hget h id2 = o2
  rcases o with _ | o
  · exact par_e
  rcases o2 with _ | o2
  · exact par_e
  cases o <;> cases o2 <;> first | exact par_cpyO _ _ _ _ _ _ _ _ _ | exact par_bc (by (repeat' first | exact par_e | exact par_k _ _ | refine par_bc ?_ ?_ | (refine par_oc ?_; intro _) | (refine par_vPtr ?_; intro _ _) | (refine par_vSl ?_; intro _ _ _) | (refine par_vAgg ?_; intro _) | (refine par_vTup ?_; intro _) | (refine par_vLit ?_; intro _) | (refine par_hset ?_; intro _) | (refine par_hnew ?_; intro _ _) | (refine par_putN ?_; intro _) | (refine par_put1 ?_; intro _))) (par_cpyO _ _ _ _ _ _ _ _ _)
theorem evI_par (i : IOp) (fr : Fr) (h : H) : Par (fun k e => evI i fr h k e) := by
  cases i with
  | mov x => exact par_oc fun v => par_k v h
  | pick c a b =>
    show Par (fun k e => ePick c a b fr h k e)
    unfold ePick
    generalize od c fr = q
    rcases q with _ | v
    · exact par_e
    cases v <;> try exact par_e
    rename_i b
    cases b
    · exact par_oc fun v => par_k v h
    · exact par_oc fun v => par_k v h
  | new t l => show Par (fun k e => eNew t l fr h k e); unfold eNew newR; (repeat' first | exact par_e | exact par_k _ _ | refine par_bc ?_ ?_ | (refine par_oc ?_; intro _) | (refine par_vPtr ?_; intro _ _) | (refine par_vSl ?_; intro _ _ _) | (refine par_vAgg ?_; intro _) | (refine par_vTup ?_; intro _) | (refine par_vLit ?_; intro _) | (refine par_hset ?_; intro _) | (refine par_hnew ?_; intro _ _) | (refine par_putN ?_; intro _) | (refine par_put1 ?_; intro _))
  | box t x => show Par (fun k e => eBox t x fr h k e); unfold eBox newR; (repeat' first | exact par_e | exact par_k _ _ | refine par_bc ?_ ?_ | (refine par_oc ?_; intro _) | (refine par_vPtr ?_; intro _ _) | (refine par_vSl ?_; intro _ _ _) | (refine par_vAgg ?_; intro _) | (refine par_vTup ?_; intro _) | (refine par_vLit ?_; intro _) | (refine par_hset ?_; intro _) | (refine par_hnew ?_; intro _ _) | (refine par_putN ?_; intro _) | (refine par_put1 ?_; intro _))
  | agg z ps => show Par (fun k e => eAgg z ps fr h k e); unfold eAgg; (repeat' first | exact par_e | exact par_k _ _ | refine par_bc ?_ ?_ | (refine par_oc ?_; intro _) | (refine par_vPtr ?_; intro _ _) | (refine par_vSl ?_; intro _ _ _) | (refine par_vAgg ?_; intro _) | (refine par_vTup ?_; intro _) | (refine par_vLit ?_; intro _) | (refine par_hset ?_; intro _) | (refine par_hnew ?_; intro _ _) | (refine par_putN ?_; intro _) | (refine par_put1 ?_; intro _))
  | bsl t n z ps => show Par (fun k e => eBsl t n z ps fr h k e); unfold eBsl newR; (repeat' first | exact par_e | exact par_k _ _ | refine par_bc ?_ ?_ | (refine par_oc ?_; intro _) | (refine par_vPtr ?_; intro _ _) | (refine par_vSl ?_; intro _ _ _) | (refine par_vAgg ?_; intro _) | (refine par_vTup ?_; intro _) | (refine par_vLit ?_; intro _) | (refine par_hset ?_; intro _) | (refine par_hnew ?_; intro _ _) | (refine par_putN ?_; intro _) | (refine par_put1 ?_; intro _))
  | ld a => show Par (fun k e => eLd a fr h k e); unfold eLd; (repeat' first | exact par_e | exact par_k _ _ | refine par_bc ?_ ?_ | (refine par_oc ?_; intro _) | (refine par_vPtr ?_; intro _ _) | (refine par_vSl ?_; intro _ _ _) | (refine par_vAgg ?_; intro _) | (refine par_vTup ?_; intro _) | (refine par_vLit ?_; intro _) | (refine par_hset ?_; intro _) | (refine par_hnew ?_; intro _ _) | (refine par_putN ?_; intro _) | (refine par_put1 ?_; intro _))
  | ldn n a => show Par (fun k e => eLdn n a fr h k e); unfold eLdn; (repeat' first | exact par_e | exact par_k _ _ | refine par_bc ?_ ?_ | (refine par_oc ?_; intro _) | (refine par_vPtr ?_; intro _ _) | (refine par_vSl ?_; intro _ _ _) | (refine par_vAgg ?_; intro _) | (refine par_vTup ?_; intro _) | (refine par_vLit ?_; intro _) | (refine par_hset ?_; intro _) | (refine par_hnew ?_; intro _ _) | (refine par_putN ?_; intro _) | (refine par_put1 ?_; intro _))
  | st n a x =>
    show Par (fun k e => eSt n a x fr h k e)
    unfold eSt
    cases Nat.beq n 1
    · show Par (fun k e => eStN n a x fr h k e); unfold eStN; (repeat' first | exact par_e | exact par_k _ _ | refine par_bc ?_ ?_ | (refine par_oc ?_; intro _) | (refine par_vPtr ?_; intro _ _) | (refine par_vSl ?_; intro _ _ _) | (refine par_vAgg ?_; intro _) | (refine par_vTup ?_; intro _) | (refine par_vLit ?_; intro _) | (refine par_hset ?_; intro _) | (refine par_hnew ?_; intro _ _) | (refine par_putN ?_; intro _) | (refine par_put1 ?_; intro _))
    · show Par (fun k e => eSt1 a x fr h k e); unfold eSt1; (repeat' first | exact par_e | exact par_k _ _ | refine par_bc ?_ ?_ | (refine par_oc ?_; intro _) | (refine par_vPtr ?_; intro _ _) | (refine par_vSl ?_; intro _ _ _) | (refine par_vAgg ?_; intro _) | (refine par_vTup ?_; intro _) | (refine par_vLit ?_; intro _) | (refine par_hset ?_; intro _) | (refine par_hnew ?_; intro _ _) | (refine par_putN ?_; intro _) | (refine par_put1 ?_; intro _))
  | nilc x => show Par (fun k e => eNilc x fr h k e); unfold eNilc; (repeat' first | exact par_e | exact par_k _ _ | refine par_bc ?_ ?_ | (refine par_oc ?_; intro _) | (refine par_vPtr ?_; intro _ _) | (refine par_vSl ?_; intro _ _ _) | (refine par_vAgg ?_; intro _) | (refine par_vTup ?_; intro _) | (refine par_vLit ?_; intro _) | (refine par_hset ?_; intro _) | (refine par_hnew ?_; intro _ _) | (refine par_putN ?_; intro _) | (refine par_put1 ?_; intro _))
  | bin o q x y => show Par (fun k e => eBin o q x y fr h k e); unfold eBin; (repeat' first | exact par_e | exact par_k _ _ | refine par_bc ?_ ?_ | (refine par_oc ?_; intro _) | (refine par_vPtr ?_; intro _ _) | (refine par_vSl ?_; intro _ _ _) | (refine par_vAgg ?_; intro _) | (refine par_vTup ?_; intro _) | (refine par_vLit ?_; intro _) | (refine par_hset ?_; intro _) | (refine par_hnew ?_; intro _ _) | (refine par_putN ?_; intro _) | (refine par_put1 ?_; intro _))
  | not x =>
    show Par (fun k e => eNot x fr h k e)
    unfold eNot
    generalize od x fr = q
    rcases q with _ | v
    · exact par_e
    cases v <;> first | exact par_e | exact par_k _ _
  | neg x =>
    show Par (fun k e => eNeg x fr h k e)
    unfold eNeg
    generalize od x fr = q
    rcases q with _ | v
    · exact par_e
    cases v <;> first | exact par_e | exact par_k _ _
  | cv t x =>
    show Par (fun k e => eCv t x fr h k e)
    unfold eCv
    generalize od x fr = q
    rcases q with _ | v
    · exact par_e
    cases v <;> first | exact par_e | exact par_k _ _
  | mkf F p l =>
    show Par (fun k e => eMkf F p l fr h k e)
    unfold eMkf
    generalize ods p fr = q
    generalize ods l fr = r
    rcases q with _ | q <;> rcases r with _ | r <;> first | exact par_e | exact par_k _ _
  | fad off x => show Par (fun k e => eFad off x fr h k e); unfold eFad; (repeat' first | exact par_e | exact par_k _ _ | refine par_bc ?_ ?_ | (refine par_oc ?_; intro _) | (refine par_vPtr ?_; intro _ _) | (refine par_vSl ?_; intro _ _ _) | (refine par_vAgg ?_; intro _) | (refine par_vTup ?_; intro _) | (refine par_vLit ?_; intro _) | (refine par_hset ?_; intro _) | (refine par_hnew ?_; intro _ _) | (refine par_putN ?_; intro _) | (refine par_put1 ?_; intro _))
  | fld off sz g x => show Par (fun k e => eFld off sz g x fr h k e); unfold eFld; (repeat' first | exact par_e | exact par_k _ _ | refine par_bc ?_ ?_ | (refine par_oc ?_; intro _) | (refine par_vPtr ?_; intro _ _) | (refine par_vSl ?_; intro _ _ _) | (refine par_vAgg ?_; intro _) | (refine par_vTup ?_; intro _) | (refine par_vLit ?_; intro _) | (refine par_hset ?_; intro _) | (refine par_hnew ?_; intro _ _) | (refine par_putN ?_; intro _) | (refine par_put1 ?_; intro _))
  | ixa n esz x i => show Par (fun k e => eIxa n esz x i fr h k e); unfold eIxa; (repeat' first | exact par_e | exact par_k _ _ | refine par_bc ?_ ?_ | (refine par_oc ?_; intro _) | (refine par_vPtr ?_; intro _ _) | (refine par_vSl ?_; intro _ _ _) | (refine par_vAgg ?_; intro _) | (refine par_vTup ?_; intro _) | (refine par_vLit ?_; intro _) | (refine par_hset ?_; intro _) | (refine par_hnew ?_; intro _ _) | (refine par_putN ?_; intro _) | (refine par_put1 ?_; intro _))
  | ixs esz x i => show Par (fun k e => eIxs esz x i fr h k e); unfold eIxs; (repeat' first | exact par_e | exact par_k _ _ | refine par_bc ?_ ?_ | (refine par_oc ?_; intro _) | (refine par_vPtr ?_; intro _ _) | (refine par_vSl ?_; intro _ _ _) | (refine par_vAgg ?_; intro _) | (refine par_vTup ?_; intro _) | (refine par_vLit ?_; intro _) | (refine par_hset ?_; intro _) | (refine par_hnew ?_; intro _ _) | (refine par_putN ?_; intro _) | (refine par_put1 ?_; intro _))
  | ix n esz g x i => show Par (fun k e => eIx n esz g x i fr h k e); unfold eIx; (repeat' first | exact par_e | exact par_k _ _ | refine par_bc ?_ ?_ | (refine par_oc ?_; intro _) | (refine par_vPtr ?_; intro _ _) | (refine par_vSl ?_; intro _ _ _) | (refine par_vAgg ?_; intro _) | (refine par_vTup ?_; intro _) | (refine par_vLit ?_; intro _) | (refine par_hset ?_; intro _) | (refine par_hnew ?_; intro _ _) | (refine par_putN ?_; intro _) | (refine par_put1 ?_; intro _))
  | ext x i => show Par (fun k e => eExt x i fr h k e); unfold eExt; (repeat' first | exact par_e | exact par_k _ _ | refine par_bc ?_ ?_ | (refine par_oc ?_; intro _) | (refine par_vPtr ?_; intro _ _) | (refine par_vSl ?_; intro _ _ _) | (refine par_vAgg ?_; intro _) | (refine par_vTup ?_; intro _) | (refine par_vLit ?_; intro _) | (refine par_hset ?_; intro _) | (refine par_hnew ?_; intro _ _) | (refine par_putN ?_; intro _) | (refine par_put1 ?_; intro _))
  | lens x =>
    show Par (fun k e => eLens x fr h k e)
    unfold eLens
    generalize od x fr = q
    rcases q with _ | v
    · exact par_e
    cases v <;> first | exact par_e | exact par_k _ _
  | mmx mx x y =>
    show Par (fun k e => eMmx mx x y fr h k e)
    unfold eMmx
    generalize od x fr = q
    generalize od y fr = r
    rcases q with _ | v
    · exact par_e
    rcases r with _ | u
    · cases v <;> exact par_e
    cases v <;> cases u
    all_goals
      (repeat' first | exact par_e | exact par_k _ _ | refine par_bc ?_ ?_ | (refine par_oc ?_; intro _) | (refine par_vPtr ?_; intro _ _) | (refine par_vSl ?_; intro _ _ _) | (refine par_vAgg ?_; intro _) | (refine par_vTup ?_; intro _) | (refine par_vLit ?_; intro _) | (refine par_hset ?_; intro _) | (refine par_hnew ?_; intro _ _) | (refine par_putN ?_; intro _) | (refine par_put1 ?_; intro _))
  | msl t z esz by_ n c =>
    show Par (fun k e => eMsl t z esz by_ n c fr h k e)
    unfold eMsl
    generalize od n fr = q
    generalize od c fr = r
    rcases q with _ | v
    · exact par_e
    cases v <;> try exact par_e
    rename_i k1 a
    cases a <;> try exact par_e
    rcases r with _ | u
    · exact par_e
    cases u <;> try exact par_e
    rename_i k2 b
    cases b <;> try exact par_e
    (repeat' first | exact par_e | exact par_k _ _ | refine par_bc ?_ ?_ | (refine par_oc ?_; intro _) | (refine par_vPtr ?_; intro _ _) | (refine par_vSl ?_; intro _ _ _) | (refine par_vAgg ?_; intro _) | (refine par_vTup ?_; intro _) | (refine par_vLit ?_; intro _) | (refine par_hset ?_; intro _) | (refine par_hnew ?_; intro _ _) | (refine par_putN ?_; intro _) | (refine par_put1 ?_; intro _))
  | slc esz x lo hi mx =>
    show Par (fun k e => eSlc esz x lo hi mx fr h k e)
    unfold eSlc
    generalize od x fr = q
    generalize odO fr lo = q1
    generalize odO fr hi = q2
    generalize odO fr mx = q3
    rcases q with _ | v
    · exact par_e
    rcases q1 with _ | lo
    · exact par_e
    rcases q2 with _ | hi
    · exact par_e
    rcases q3 with _ | mx
    · exact par_e
    simp only
    generalize litN lo = q1
    generalize litN hi = q2
    generalize litN mx = q3
    rcases q1 with _ | lo
    · exact par_e
    rcases q2 with _ | hi
    · exact par_e
    rcases q3 with _ | mx
    · exact par_e
    cases v <;> try exact par_e
    · rename_i id off n c
      simp only
      generalize bnds n c lo hi mx = q
      rcases q with _ | ⟨l, r, m⟩
      · exact par_e
      · exact par_k _ _
    · simp only
      generalize bnds 0 0 lo hi mx = q
      rcases q with _ | q
      · exact par_e
      · exact par_k _ _
  | sla n esz x lo hi mx =>
    show Par (fun k e => eSla n esz x lo hi mx fr h k e)
    unfold eSla
    generalize od x fr = q
    generalize odO fr lo = q1
    generalize odO fr hi = q2
    generalize odO fr mx = q3
    rcases q with _ | v
    · exact par_e
    cases v <;> try exact par_e
    rename_i id off
    rcases q1 with _ | lo
    · exact par_e
    rcases q2 with _ | hi
    · exact par_e
    rcases q3 with _ | mx
    · exact par_e
    simp only
    generalize litN lo = q1
    generalize litN hi = q2
    generalize litN mx = q3
    rcases q1 with _ | lo
    · exact par_e
    rcases q2 with _ | hi
    · exact par_e
    rcases q3 with _ | mx
    · exact par_e
    simp only
    generalize bnds n n lo hi mx = q
    rcases q with _ | ⟨l, r, m⟩
    · exact par_e
    · exact par_k _ _
  | app t esz by_ x y => exact par_oc fun a => par_oc fun b => par_appV _ _ _ _ _ _
  | cpy esz x y => exact par_oc fun a => par_oc fun b => par_cpyV _ _ _ _
end Go.Ev
end
