/-
  The operations that make things or write them.
-/
import Derived.Test.YtapeacnagpphjaaGreatEvH
set_option linter.unusedSimpArgs false
set_option linter.unusedVariables false
noncomputable section
namespace Go.Ev
open Go
variable {E : Env} {P : Program} {w : World}

def OpPost (E : Env) (P : Program) (o : Oper) (a : Act) (ρ : Rho) (h : H) (w : World) (v : V) (h' : H) : Prop :=
  ∃ ρ' w' nx, (execOp a.eval o).run P w = .ok nx w' ∧ (nx = .value (v.γ E ρ') ∨ (nx = .skip ∧ v = .tup [])) ∧ Sat E ρ' h' w' ∧ Ext ρ h w ρ' h' w' ∧ v.bd h'.n.toNat
/-- a new thing of cells -/
theorem new_run {o : Oper} {a : Act} {ρ : Rho} {h : H} {t : TypeId} {l : List V} {v : Ev.P → V} {k : KV} {e : Nat} (hs : Sat E ρ h w) (hr : newR h t l v k e = 0) (he : e ≠ 0)
    (hx : (execOp a.eval o).run P w = .ok (.value ((v h.n).γ E (ext1 ρ h.n ⟨w.heap.size, 0⟩))) (w.alloc (.cells (γL E ρ l).toArray t))) (hb : bdL h.n.toNat l) (hv : (v h.n).bd (h.n.toNat + 1)) :
    ∃ v h', OpPost E P o a ρ h w v h' ∧ k v h' = 0 := by
  obtain ⟨h1, hr⟩ := bc_ok hr he
  rw [hnew_eq] at hr
  obtain ⟨g1, g2⟩ := sat_add E (w' := w.alloc (.cells (γL E ρ l).toArray t)) hs (.cells t l) hb ⟨w.heap.size, 0⟩ (fun _ => Nat.le_refl _)
    (by show (w.heap.push _)[w.heap.size]? = _; simp) (fun b hb => by rw [heap_alloc, Array.getElem?_push, if_neg (by omega)]) (by simp [heap_alloc]) rfl rfl rfl
  exact ⟨_, _, ⟨_, _, _, hx, .inl rfl, g1, g2, by simpa [H.add] using hv⟩, hr⟩

theorem repA_get {α : Type} (n : Nat) (z : List α) (h : 0 < z.length) (j : Nat) : (repA n z)[j]? = if j < n * z.length then z[j % z.length]? else none := by
  induction n generalizing j with
  | zero => simp [repA]
  | succ n ih =>
    simp only [repA, app_eq, List.getElem?_append]
    by_cases h1 : j < z.length
    · rw [if_pos h1, if_pos (by rw [Nat.succ_mul]; omega), Nat.mod_eq_of_lt h1]
    · rw [if_neg h1, ih, Nat.succ_mul]
      by_cases h2 : j - z.length < n * z.length
      · rw [if_pos h2, if_pos (by omega), Nat.mod_eq_sub_mod (by omega : j ≥ z.length)]
      · rw [if_neg h2, if_neg (by omega)]
theorem repA_mem {α : Type} (n : Nat) (z : List α) (x : α) (h : x ∈ repA n z) : x ∈ z := by
  induction n with
  | zero => simp [repA] at h
  | succ n ih =>
    simp only [repA, app_eq, List.mem_append] at h
    rcases h with h | h
    · exact h
    · exact ih h
theorem repA_γ (ρ : Rho) (n : Nat) (z : List V) (h : 0 < z.length) : Array.map (fun x => (γL E ρ z).toArray[x % (γL E ρ z).toArray.size]!) (Array.range (n * z.length)) = (γL E ρ (repA n z)).toArray := by
  apply Array.ext_getElem?
  intro j
  simp only [Array.getElem?_map, List.getElem?_toArray, γL_get, repA_get n z h]
  by_cases h1 : j < n * z.length
  · have h2 : j % z.length < z.length := Nat.mod_lt _ h
    rw [if_pos h1]
    have h3 : (Array.range (n * z.length))[j]? = some j := by simp [h1]
    rw [h3]
    have h4 : (γL E ρ z).toArray.size = z.length := by simp [γL_length]
    rw [Option.map_some, h4]
    have h5 : j % z.length < (γL E ρ z).toArray.size := by omega
    rw [getElem!_pos ((γL E ρ z).toArray) (j % z.length) h5]
    rw [List.getElem?_eq_getElem h2]
    simp [γL_eq]
  · rw [if_neg h1]
    simp
    omega

/-! ### writing -/
def setTr (d : Nat) : Tr V → Nat → List V → Tr V
  | tr, _, [] => tr
  | tr, off, v :: r => setTr d (tr.set d off v) (off + 1) r
theorem setN_eq {σ : Type} (d : Nat) : ∀ (l : List V) (tr : Tr V) (off : Nat) (k : Tr V → σ), setN d tr off l k = k (setTr d tr off l)
  | [], tr, off, k => rfl
  | v :: r, tr, off, k => by
    have e : setN d tr off (v :: r) k = tset tr d off v (fun tr => setN d tr (off + 1) r k) := rfl
    rw [e, tset_eq, setN_eq d r]; rfl
theorem setTr_get (d : Nat) : ∀ (l : List V) (tr : Tr V) (off j : Nat), off + l.length ≤ 2 ^ d → j < 2 ^ d → (setTr d tr off l).get d j = if off ≤ j ∧ j < off + l.length then l[j - off]? else tr.get d j
  | [], tr, off, j, _, _ => by rw [if_neg (by simp only [List.length_nil]; omega)]; rfl
  | v :: r, tr, off, j, h, hj => by
    simp only [List.length_cons] at h ⊢
    have e : setTr d tr off (v :: r) = setTr d (tr.set d off v) (off + 1) r := rfl
    rw [e, setTr_get d r _ _ j (by omega) hj, Tr.get_set d _ _ _ _ (by omega) hj]
    by_cases h1 : j = off
    · subst h1
      rw [if_neg (by omega), if_pos rfl, if_pos (by omega)]; simp
    · rw [if_neg h1]
      by_cases h2 : off + 1 ≤ j ∧ j < off + 1 + r.length
      · rw [if_pos h2, if_pos (by omega), show j - off = (j - (off + 1)) + 1 from by omega]; simp
      · rw [if_neg h2, if_neg (by omega)]
def PutOk (o : O) (off : Nat) (vs : List V) (o' : O) : Prop :=
  match o with
  | .cells t c => ∃ c', spl c off vs = some c' ∧ o' = .cells t c'
  | .arr t n d z tr => off + vs.length ≤ n ∧ o' = .arr t n d z (setTr d tr off vs)
  | .vec t x n c => ∃ c', spl c off vs = some c' ∧ o' = .vec t x n c'
  | .varr t n d z tr => off + vs.length ≤ n ∧ o' = .varr t n d z (setTr d tr off vs)
  | .dead => False
theorem putN_ok {o : O} {off : Nat} {l : List V} {k : O → Nat} {e : Nat} (h : putN o off l k e = 0) (he : e ≠ 0) : ∃ o', PutOk o off l o' ∧ k o' = 0 := by
  cases o with
  | cells t c => obtain ⟨c', h1, h2⟩ := oc_ok (x := spl c off l) (f := fun c => k (.cells t c)) h he; exact ⟨_, ⟨c', h1, rfl⟩, h2⟩
  | vec t x n c => obtain ⟨c', h1, h2⟩ := oc_ok (x := spl c off l) (f := fun c => k (.vec t x n c)) h he; exact ⟨_, ⟨c', h1, rfl⟩, h2⟩
  | arr t n d z tr =>
    obtain ⟨h1, h2⟩ := bc_ok (x := Nat.ble (Nat.add off (len l)) n) (a := setN d tr off l (fun tr => k (.arr t n d z tr))) h he
    rw [setN_eq] at h2
    exact ⟨_, ⟨by simpa [len_eq] using h1, rfl⟩, h2⟩
  | varr t n d z tr =>
    obtain ⟨h1, h2⟩ := bc_ok (x := Nat.ble (Nat.add off (len l)) n) (a := setN d tr off l (fun tr => k (.varr t n d z tr))) h he
    rw [setN_eq] at h2
    exact ⟨_, ⟨by simpa [len_eq] using h1, rfl⟩, h2⟩
  | dead => exact absurd h he
theorem put1_ok {o : O} {off : Nat} {v : V} {k : O → Nat} {e : Nat} (h : put1 o off v k e = 0) (he : e ≠ 0) : ∃ o', PutOk o off [v] o' ∧ k o' = 0 := by
  cases o with
  | cells t c => obtain ⟨c', h1, h2⟩ := oc_ok (x := spl c off [v]) (f := fun c => k (.cells t c)) h he; exact ⟨_, ⟨c', h1, rfl⟩, h2⟩
  | vec t x n c => obtain ⟨c', h1, h2⟩ := oc_ok (x := spl c off [v]) (f := fun c => k (.vec t x n c)) h he; exact ⟨_, ⟨c', h1, rfl⟩, h2⟩
  | arr t n d z tr =>
    obtain ⟨h1, h2⟩ := bc_ok (x := Nat.blt off n) (a := tset tr d off v (fun tr => k (.arr t n d z tr))) h he
    rw [tset_eq] at h2
    exact ⟨_, ⟨by have : off < n := by simpa using h1
                  simp; omega, rfl⟩, h2⟩
  | varr t n d z tr =>
    obtain ⟨h1, h2⟩ := bc_ok (x := Nat.blt off n) (a := tset tr d off v (fun tr => k (.varr t n d z tr))) h he
    rw [tset_eq] at h2
    exact ⟨_, ⟨by have : off < n := by simpa using h1
                  simp; omega, rfl⟩, h2⟩
  | dead => exact absurd h he
/-- cells with some written over -/
def splice (cs : Array Value) (off : Nat) (vs : List Value) : Array Value := (cs.toList.take off ++ vs ++ cs.toList.drop (off + vs.length)).toArray
theorem splice_get {cs : Array Value} {off : Nat} {vs : List Value} (h : off + vs.length ≤ cs.size) (j : Nat) : (splice cs off vs)[j]? = if off ≤ j ∧ j < off + vs.length then vs[j - off]? else cs[j]? := by
  unfold splice
  simp only [List.getElem?_toArray]
  rw [List.getElem?_append, List.getElem?_append]
  have hlt : (cs.toList.take off).length = off := by simp; omega
  simp only [hlt, List.length_append]
  by_cases h1 : j < off
  · rw [if_pos (by omega), if_pos h1, if_neg (by omega), List.getElem?_take, if_pos h1]; simp
  · by_cases h2 : j < off + vs.length
    · rw [if_pos h2, if_neg h1, if_pos (by omega)]
    · rw [if_neg h2, if_neg (by omega), List.getElem?_drop]
      simp only [Array.getElem?_toList]
      congr 1; omega
theorem splice_size {cs : Array Value} {off : Nat} {vs : List Value} (h : off + vs.length ≤ cs.size) : (splice cs off vs).size = cs.size := by
  unfold splice
  simp; omega
theorem trAt_set {d : Nat} {tr : Tr V} {z : V} {off : Nat} {vs : List V} {i : Nat} (h : off + vs.length ≤ 2 ^ d) (hi : i < 2 ^ d) : trAt (setTr d tr off vs) d z i = if off ≤ i ∧ i < off + vs.length then vs.getD (i - off) z else trAt tr d z i := by
  unfold trAt
  rw [setTr_get d vs tr off i h hi]
  split
  · rw [List.getD_eq_getElem?_getD]
  · rfl
theorem put_is {o o' : O} {off : Nat} {vs : List V} {ρ : Rho} {L : Pl} {hp : Array Obj} {n : Nat} (hp1 : PutOk o off vs o') (hi : o.Is E ρ L hp) (hb : o.bd n) (hv : bdL n vs) :
    ∃ (cs : Array Value) (t : TypeId), hp[L.b]? = some (.cells cs t (0, 0)) ∧ off + vs.length ≤ cs.size ∧ o.live = true ∧ o'.bd n ∧
      (∀ hp' : Array Obj, hp'[L.b]? = some (.cells (splice cs off (γL E ρ vs)) t (0, 0)) → o'.Is E ρ L hp') := by
  have hvl : (γL E ρ vs).length = vs.length := γL_length E ρ vs
  cases o with
  | cells t c =>
    obtain ⟨c', h1, rfl⟩ := hp1
    have hfit := spl_fits _ _ _ _ h1
    refine ⟨_, t, hi, by simp [γL_length]; exact hfit, rfl, bdL_spl h1 hb hv, fun hp' h => ?_⟩
    simp only [O.Is]
    rw [h]
    congr 2
    apply Array.ext_getElem?
    intro j
    rw [splice_get (by simp [γL_length]; exact hfit)]
    simp only [hvl, List.getElem?_toArray, γL_get]
    rw [spl_get _ _ _ _ h1]
    split <;> rfl
  | vec t x m c =>
    obtain ⟨c', h1, rfl⟩ := hp1
    have hfit := spl_fits _ _ _ _ h1
    have hlen := spl_len _ _ _ _ h1
    obtain ⟨cs, h2, h3, h4, h5, h6, h7⟩ := hi
    have hmul : m * x ≤ L.c * x := Nat.mul_le_mul_right _ h4
    refine ⟨cs, t, h2, by omega, rfl, bdL_spl h1 hb hv, fun hp' h => ⟨_, h, ?_, h4, h5, by omega, fun i hi => ?_⟩⟩
    · rw [splice_size (by rw [hvl]; omega)]; exact h3
    · rw [splice_get (by rw [hvl]; omega), spl_get _ _ _ _ h1, hvl]
      split
      · rw [γL_get]
      · exact h7 i (by omega)
  | arr t m d z tr =>
    obtain ⟨h1, rfl⟩ := hp1
    obtain ⟨h2, cs, h3, h4, h5⟩ := hi
    refine ⟨cs, t, h3, by omega, rfl, ⟨hb.1, fun i v hi hv2 => ?_⟩, fun hp' h => ⟨h2, _, h, ?_, fun i hi => ?_⟩⟩
    · rw [setTr_get d vs tr off i (by omega) hi] at hv2
      split at hv2
      · exact (bdL_eq n vs).1 hv v (List.mem_of_getElem? hv2)
      · exact hb.2 i v hi hv2
    · rw [splice_size (by rw [hvl]; omega)]; exact h4
    · rw [splice_get (by rw [hvl]; omega), hvl, trAt_set (by omega) (by omega)]
      split
      · rename_i hc
        have hlt : i - off < vs.length := by omega
        rw [γL_get, List.getD_eq_getElem?_getD]
        simp [hlt]
      · exact h5 i hi
  | varr t m d z tr =>
    obtain ⟨h1, rfl⟩ := hp1
    obtain ⟨h2, cs, h3, h4, h5, h6, h7⟩ := hi
    refine ⟨cs, t, h3, by omega, rfl, ⟨hb.1, fun i v hi hv2 => ?_⟩, fun hp' h => ⟨h2, _, h, ?_, h5, h6, fun i hi => ?_⟩⟩
    · rw [setTr_get d vs tr off i (by omega) hi] at hv2
      split at hv2
      · exact (bdL_eq n vs).1 hv v (List.mem_of_getElem? hv2)
      · exact hb.2 i v hi hv2
    · rw [splice_size (by rw [hvl]; omega)]; exact h4
    · rw [splice_get (by rw [hvl]; omega), hvl, trAt_set (by omega) (by omega)]
      split
      · rename_i hc
        have hlt : i - off < vs.length := by omega
        rw [γL_get, List.getD_eq_getElem?_getD]
        simp [hlt]
      · exact h7 i hi
  | dead => exact hp1.elim
/-- cells stored into a thing -/
theorem store_cells {ρ : Rho} {h : H} (hs : Sat E ρ h w) {id : Ev.P} {o o' : O} (ho : h.t.get id = some o) (hlo : h.lo.toNat ≤ id.toNat) {off : Nat} {vs : List V} (hp : PutOk o off vs o') (hv : bdL h.n.toNat vs) (h1 : allB V.one vs = true) :
    ∃ w', (storeCells ⟨(ρ id).b, off, none⟩ (γL E ρ vs) 0).run P w = .ok () w' ∧ Sat E ρ (h.put id o') w' ∧ Ext ρ h w ρ (h.put id o') w' := by
  obtain ⟨cs, t, g1, g2, g3, g4, g5⟩ := put_is (E := E) hp (hs.obj id o ho) (hs.bd id o ho).2 hv
  have hst := run_storeCells_at P (ρ id).b off t (γL E ρ vs) 0 cs w g1 (by rw [γL_length]; omega) (fun y hy => by
    rw [γL_eq] at hy
    obtain ⟨u, hu, rfl⟩ := List.mem_map.1 hy
    exact one_γ E ρ ((allB_eq _ _).1 h1 u hu))
  simp only [Nat.add_zero] at hst
  obtain ⟨k1, k2⟩ := sat_put E (w' := w.setRow (ρ id).b (splice cs off (γL E ρ vs))) hs ho g3 hlo o' g4 (g5 _ (setRow_heap _ _ _ _ _ _ g1)) (fun b hb => setRow_other _ _ _ _ hb) (by simp [World.setRow]) rfl rfl rfl
  exact ⟨_, hst, k1, k2⟩

/-! ### slices' cells -/
theorem slOf_γ {y : V} {id : Ev.P} {off n : Nat} {c : Option Nat} (h : slOf y = some (id, off, n, c)) (ρ : Rho) : ∃ c', y.γ E ρ = .slice (some ⟨(ρ id).b, off, none⟩) n c' ∧ (∀ m, y.bd m → id.toNat < m) := by
  cases y <;> simp [slOf] at h
  · obtain ⟨rfl, rfl, rfl, rfl⟩ := h; exact ⟨_, rfl, fun m hm => hm⟩
  · obtain ⟨rfl, rfl, rfl, rfl⟩ := h; exact ⟨_, rfl, fun m hm => hm⟩
theorem load_cells {ρ : Rho} {h : H} (hs : Sat E ρ h w) {id : Ev.P} {o : O} (ho : h.t.get id = some o) {off n : Nat} {l : List V} (hl : loadN o off n = some l) :
    l.length = n ∧ bdL h.n.toNat l ∧ ∀ j v, (γL E ρ l)[j]? = some v → w.cell? ((⟨(ρ id).b, off, none⟩ : Addr).add j) = some v := by
  obtain ⟨h1, h2⟩ := loadN_get hl
  by_cases h0 : l.length = 0
  · have : l = [] := List.length_eq_zero_iff.1 h0
    subst this
    exact ⟨h1, trivial, fun j v hv => by simp [γL] at hv⟩
  · have hlive : o.live = true := cellAt_live (v := l[0]'(by omega)) (i := off + 0) (by rw [h2 0 (by omega)]; simp)
    obtain ⟨cs, tt, hb, hcell⟩ := O.block (hs.obj id o ho) (hs.bd id o ho).2 hlive
    have hall : ∀ j (hj : j < l.length), cs[off + j]? = some (l[j].γ E ρ) ∧ l[j].bd h.n.toNat := fun j hj => hcell (off + j) l[j] (by rw [h2 j (by omega)]; simp [hj])
    refine ⟨h1, ?_, fun j v hv => ?_⟩
    · rw [bdL_eq]
      intro v hv
      obtain ⟨j, hj, rfl⟩ := List.mem_iff_getElem.1 hv
      exact (hall j hj).2
    · have hj : j < l.length := by
        have := (List.getElem?_eq_some_iff.1 hv).1
        rwa [γL_length] at this
      rw [addr_add, cell_at hb, (hall j hj).1]
      rw [γL_get] at hv
      simpa [hj] using hv
theorem newOf_ok {h : H} {esz : Nat} {y : V} {n : Nat} {l : List V} (hh : newOf h esz y = some (n, l)) : ∃ id off c o, slOf y = some (id, off, n, c) ∧ h.t.get id = some o ∧ loadN o off (n * esz) = some l := by
  unfold newOf at hh
  split at hh
  · rename_i id off m c hsl
    split at hh
    · rename_i o ho
      split at hh
      · rename_i l' hl
        simp at hh
        obtain ⟨rfl, rfl⟩ := hh
        rw [hget_eq] at ho
        exact ⟨id, off, c, o, hsl, ho, hl⟩
      · simp at hh
    · simp at hh
  · simp at hh
theorem room_ok {n b : Nat} (h : roomB n b = true) : n * b ≤ 140737488355328 ∧ n ≤ 1099511627776 := by
  simpa [roomB] using h
theorem allB_γ {ρ : Rho} {l : List V} (h : ∀ v ∈ l, v.one = true) : ∀ u ∈ γL E ρ l, u.oneCell' = true := by
  intro u hu
  rw [γL_eq] at hu
  obtain ⟨v, hv, rfl⟩ := List.mem_map.1 hu
  exact one_γ E ρ (h v hv)
/-- a new block with what is appended -/
theorem grown_is {ρ : Rho} {n cap e old : Nat} {t : TypeId} {l : List V} {z : Array Value} {hp : Array Obj} (hz : z.size = e) (hl : l.length = n * e) (hc : n ≤ cap) (hm : cap ≤ maxLen)
    (h : hp[old]? = some (.cells ((γL E ρ l).toArray ++ Builtin.zeroCells z (cap - n)) t (0, 0))) : (O.vec t e n l).Is E ρ ⟨old, cap⟩ hp := by
  refine ⟨_, h, ?_, hc, hm, hl, fun i hi => ?_⟩
  · simp only [Array.size_append, List.size_toArray, γL_length, size_zeroCells, hz, hl]
    rw [← Nat.add_mul]; congr 1; omega
  · rw [Array.getElem?_append_left (by simp [γL_length]; omega)]
    simp [γL_get]

theorem app_run {C : Nat → TI} (hC : TiOk P C) {t e1 esz by_ : Nat} {ez : List V} (ht : C t = .slc e1 esz by_ ez) (ty : TypeId) {h : H} {ρ : Rho} (hs : Sat E ρ h w) {x y : V} (hx : x.bd h.n.toNat)
    {k : KV} {e : Nat} (hr : appV h e1 esz by_ x y k e = 0) (he : e ≠ 0) :
    ∃ v h' ρ' w', (Builtin.append_ #[t, t] ty #[x.γ E ρ, y.γ E ρ]).run P w = .ok (v.γ E ρ') w' ∧ Sat E ρ' h' w' ∧ Ext ρ h w ρ' h' w' ∧ v.bd h'.n.toNat ∧ k v h' = 0 := by
  obtain ⟨hu, hty, hsz, hbys, ⟨z, hz, hzc⟩, hzl, hzo⟩ := ti_slc hC ht
  obtain ⟨i, hi, hiz, his⟩ := zero_info (E := E) hz ρ
  have hib : i.bytes = by_ := by rw [← hbys]; simp [bytesP, hi]
  have his : i.size = esz := by rw [his]; exact hsz
  have hzs : (z.γ E ρ).cells.size = esz := by rw [cells_γ]; simp [γL_length, hzc, hzl]
  unfold appV at hr
  split at hr
  · exact absurd hr he
  rename_i n l hnew1
  obtain ⟨id2, off2, c2, o2, hsl, ho2, hl2⟩ := newOf_ok hnew1
  obtain ⟨c2', hyγ, _⟩ := slOf_γ (E := E) hsl ρ
  obtain ⟨hlen, hbd, hcell⟩ := load_cells hs ho2 hl2
  obtain ⟨hn1, hr⟩ := bc_ok hr he
  obtain ⟨hone, hr⟩ := bc_ok hr he
  have h0 : 0 < n := Nat.le_of_ble_eq_true hn1
  have hlen' : (γL E ρ l).length = n * i.size := by rw [γL_length, hlen, his]
  have hone := (allB_eq _ _).1 hone
  cases x with
  | snil =>
    obtain ⟨hroom, hr⟩ := bc_ok hr he
    obtain ⟨r1, r2⟩ := room_ok hroom
    rw [hnew_eq] at hr
    have hrun := run_append_nil (P := P) w t ty e1 i (z.γ E ρ) hu hi hiz ⟨(ρ id2).b, off2, none⟩ n c2' (γL E ρ l) hlen' hcell h0 (by omega) (by rw [hib]; omega)
    obtain ⟨q1, q2⟩ := sat_add E (w' := w.drew.alloc (.cells ((γL E ρ l).toArray ++ Builtin.zeroCells (z.γ E ρ).cells (grownCap w n 0 e1 - n)) e1)) hs (.vec e1 esz n l) hbd ⟨w.heap.size, grownCap w n 0 e1⟩ (fun _ => Nat.le_refl _)
      (grown_is (old := w.heap.size) hzs hlen (grownCap_ge _ _ _ _) (grownCap_le_maxLen _ _ _ _ (by simp only [maxLen]; omega)) (by rw [heap_alloc]; show (w.heap.push _)[w.heap.size]? = _; rw [Array.getElem?_push, if_pos rfl]))
      (fun b hb => by rw [heap_alloc]; show (w.heap.push _)[b]? = _; rw [Array.getElem?_push, if_neg (by omega)]) (by rw [heap_alloc]; show w.heap.size ≤ (w.heap.push _).size; simp) rfl rfl rfl
    refine ⟨_, _, _, _, ?_, q1, q2, ?_, hr⟩
    · show (Builtin.append_ #[t, t] ty #[.slice none 0 0, y.γ E ρ]).run P w = _
      rw [hyγ, hrun]
      simp [V.γ, ext1]
    · simp [V.bd, H.add]
  | vec id m =>
    obtain ⟨hm, hr⟩ := bc_ok hr he
    obtain ⟨hroom, hr⟩ := bc_ok hr he
    obtain ⟨r1, r2⟩ := room_ok hroom
    split at hr
    rotate_left
    · exact absurd hr he
    rename_i t' e' m' c ho
    obtain ⟨hcond, hr2⟩ := bc_ok hr he
    clear hr
    simp only [Bool.and_eq_true, Nat.beq_eq] at hcond
    obtain ⟨⟨rfl, rfl⟩, rfl⟩ := hcond
    rw [hget_eq] at ho
    rw [hset_eq, hnew_eq, app_eq] at hr2
    have hlo := hmay_iff h id hm
    obtain ⟨cs, v1, v2, v3, v4, v5, v6⟩ := hs.obj id _ ho
    have hbc : bdL h.n.toNat c := (hs.bd id _ ho).2
    have hlc : (γL E ρ c).length = m * i.size := by rw [γL_length, v5, his]
    have hcat : (c ++ l).length = (m + n) * esz := by rw [List.length_append, v5, hlen, Nat.add_mul]
    have hbcat : bdL h.n.toNat (c ++ l) := by
      rw [bdL_eq] at hbc hbd ⊢
      intro v hv
      rcases List.mem_append.1 hv with hv | hv
      · exact hbc v hv
      · exact hbd v hv
    by_cases hfit : m + n ≤ (ρ id).c
    · have hsz2 : m * i.size + (γL E ρ l).length ≤ cs.size := by
        rw [hlen', v2, his, ← Nat.add_mul]; exact Nat.mul_le_mul_right _ hfit
      have hrun := run_append_room (P := P) w t ty e1 i hu hi (ρ id).b m (ρ id).c cs v1 ⟨(ρ id2).b, off2, none⟩ n c2' (γL E ρ l) hlen' hcell (allB_γ hone) hfit hsz2
      obtain ⟨q1, q2⟩ := sat_move E (w' := w.setRow (ρ id).b (splice cs (m * i.size) (γL E ρ l))) hs ho rfl hlo (.vec e1 esz (m + n) (c ++ l)) rfl hbcat (ρ id) rfl
        ⟨_, setRow_heap _ _ _ _ _ _ v1, by rw [splice_size hsz2]; exact v2, hfit, v4, hcat, fun j hj => by
          rw [splice_get hsz2]
          by_cases hj2 : j < c.length
          · have : ¬ m * i.size ≤ j := by rw [his]; omega
            rw [if_neg (by omega), v6 j hj2, List.getElem?_append_left hj2]
          · rw [if_pos (by rw [hlen', his, ← Nat.add_mul]; rw [his] at *; omega), γL_get, List.getElem?_append_right (by omega), his, v5]⟩
        (fun b hb => setRow_other _ _ _ _ hb) (by simp [World.setRow]) rfl rfl rfl
      refine ⟨_, _, _, _, ?_, q1, q2, ?_, hr2⟩
      · show (Builtin.append_ #[t, t] ty #[.slice (some ⟨(ρ id).b, 0, none⟩) m (ρ id).c, y.γ E ρ]).run P w = _
        rw [hyγ, hrun]
        simp [V.γ, ext1, splice, H.put]
      · simp [V.bd, H.add, H.put]
    · have hold : ∀ j v, (γL E ρ c)[j]? = some v → w.cell? ((⟨(ρ id).b, 0, none⟩ : Addr).add j) = some v := by
        intro j v hv
        have hj : j < c.length := by
          have := (List.getElem?_eq_some_iff.1 hv).1
          rwa [γL_length] at this
        rw [addr_add, cell_at v1, Nat.zero_add, v6 j hj, ← γL_get]
        exact hv
      have hrun := run_append_grow (P := P) w t ty e1 i (z.γ E ρ) hu hi hiz ⟨(ρ id).b, 0, none⟩ m (ρ id).c (γL E ρ c) hlc hold ⟨(ρ id2).b, off2, none⟩ n c2' (γL E ρ l) hlen' hcell (by omega) (by omega)
        (growslice_fits (by omega) (by rw [hib]; exact r1))
      obtain ⟨p1, p2⟩ := sat_dead E hs id _ ho hlo
      obtain ⟨q1, q2⟩ := sat_add E (w' := w.drew.alloc (.cells ((γL E ρ c).toArray ++ (γL E ρ l).toArray ++ Builtin.zeroCells (z.γ E ρ).cells (grownCap w (m + n) (ρ id).c e1 - (m + n))) e1)) p1 (.vec e1 esz (m + n) (c ++ l)) hbcat
        ⟨w.heap.size, grownCap w (m + n) (ρ id).c e1⟩ (fun _ => Nat.le_refl _)
        (grown_is (old := w.heap.size) hzs hcat (grownCap_ge _ _ _ _) (grownCap_le_maxLen _ _ _ _ (by simp only [maxLen]; omega)) (by
          rw [heap_alloc]; show (w.heap.push _)[w.heap.size]? = _
          rw [Array.getElem?_push, if_pos rfl, γL_app]; simp))
        (fun b hb => by rw [heap_alloc]; show (w.heap.push _)[b]? = _; rw [Array.getElem?_push, if_neg (by omega)]) (by rw [heap_alloc]; show w.heap.size ≤ (w.heap.push _).size; simp) rfl rfl rfl
      refine ⟨_, _, _, _, ?_, q1, p2.trans q2, ?_, hr2⟩
      · show (Builtin.append_ #[t, t] ty #[.slice (some ⟨(ρ id).b, 0, none⟩) m (ρ id).c, y.γ E ρ]).run P w = _
        rw [hyγ, hrun]
        simp [V.γ, ext1, H.put]
      · simp [V.bd, H.add, H.put]
  | sl id off m c =>
    obtain ⟨hmc, hr1⟩ := bc_ok hr he
    have hmc : m = c := by simpa using hmc
    subst hmc
    clear hr
    obtain ⟨hroom, hr⟩ := bc_ok hr1 he
    obtain ⟨r1, r2⟩ := room_ok hroom
    split at hr
    rotate_left
    · exact absurd hr he
    rename_i o ho
    rw [hget_eq] at ho
    split at hr
    rotate_left
    · exact absurd hr he
    rename_i c hl
    rw [hnew_eq, app_eq] at hr
    obtain ⟨v5, hbc, hold⟩ := load_cells hs ho hl
    have hlc : (γL E ρ c).length = m * i.size := by rw [γL_length, v5, his]
    have hcat : (c ++ l).length = (m + n) * esz := by rw [List.length_append, v5, hlen, Nat.add_mul]
    have hbcat : bdL h.n.toNat (c ++ l) := by
      rw [bdL_eq] at hbc hbd ⊢
      intro v hv
      rcases List.mem_append.1 hv with hv | hv
      · exact hbc v hv
      · exact hbd v hv
    have hrun := run_append_grow (P := P) w t ty e1 i (z.γ E ρ) hu hi hiz ⟨(ρ id).b, off, none⟩ m m (γL E ρ c) hlc hold ⟨(ρ id2).b, off2, none⟩ n c2' (γL E ρ l) hlen' hcell (by omega) (by omega)
      (growslice_fits (by omega) (by rw [hib]; exact r1))
    obtain ⟨q1, q2⟩ := sat_add E (w' := w.drew.alloc (.cells ((γL E ρ c).toArray ++ (γL E ρ l).toArray ++ Builtin.zeroCells (z.γ E ρ).cells (grownCap w (m + n) m e1 - (m + n))) e1)) hs (.vec e1 esz (m + n) (c ++ l)) hbcat
      ⟨w.heap.size, grownCap w (m + n) m e1⟩ (fun _ => Nat.le_refl _)
      (grown_is (old := w.heap.size) hzs hcat (grownCap_ge _ _ _ _) (grownCap_le_maxLen _ _ _ _ (by simp only [maxLen]; omega)) (by
        rw [heap_alloc]; show (w.heap.push _)[w.heap.size]? = _
        rw [Array.getElem?_push, if_pos rfl, γL_app]; simp))
      (fun b hb => by rw [heap_alloc]; show (w.heap.push _)[b]? = _; rw [Array.getElem?_push, if_neg (by omega)]) (by rw [heap_alloc]; show w.heap.size ≤ (w.heap.push _).size; simp) rfl rfl rfl
    refine ⟨_, _, _, _, ?_, q1, q2, ?_, hr⟩
    · show (Builtin.append_ #[t, t] ty #[.slice (some ⟨(ρ id).b, off, none⟩) m m, y.γ E ρ]).run P w = _
      rw [hyγ, hrun]
      simp [V.γ, ext1]
    · simp [V.bd, H.add]
  | _ => exact absurd hr he

theorem allTr_get (p : V → Bool) : ∀ (tr : Tr V), allTr p tr = true → ∀ (d i : Nat) (v : V), tr.get d i = some v → p v = true
  | .nil, _, d, i, v, h => by rw [Tr.get_nil] at h; simp at h
  | .leaf a, h, d, i, v, hv => by
    cases d with
    | zero => have hv : some a = some v := hv
              cases hv; exact h
    | succ d => rw [Tr.get_succ] at hv; simp at hv
  | .node l r, h, d, i, v, hv => by
    have h : bc (allTr p l) (allTr p r) false = true := h
    cases hl : allTr p l with
    | false => rw [hl] at h; exact absurd h (by simp [bc])
    | true =>
      rw [hl] at h
      have hr : allTr p r = true := h
      cases d with
      | zero => have hv : none = some v := hv
                cases hv
      | succ d =>
        rw [Tr.get_succ] at hv
        simp only at hv
        split at hv
        · exact allTr_get p l hl d _ v hv
        · exact allTr_get p r hr d _ v hv
theorem run_copy_any {t t' ty elem : TypeId} {i : TypeInfo} (hu : P.underlying t = some (.slice elem)) (hi : P.info? elem = some i) {d a : Addr} {dLen dCap sLen sCap : Nat} {cs : List Value} {w' : World}
    (hn : cs.length = Nat.min sLen dLen * i.size) (hsrc : ∀ j v, cs[j]? = some v → w.cell? (a.add j) = some v) (hst : (storeCells d cs 0).run P w = .ok () w') :
    (Builtin.copy_ #[t, t'] ty #[.slice (some d) dLen dCap, .slice (some a) sLen sCap]).run P w = .ok (goInt (Nat.min sLen dLen)) w' := by
  have hl := run_loadCells_list (P := P) w a cs hsrc
  simp [Builtin.copy_, run_underlying hu, Builtin.lenOf, Builtin.firstCells, sizeOf, typeInfo, hi, ← hn, hl, hst]
theorem cpyO_run {C : Nat → TI} (hC : TiOk P C) {t t' e1 esz by_ : Nat} {ez : List V} (ht : C t = .slc e1 esz by_ ez) (ty : TypeId) {h : H} {ρ : Rho} (hs : Sat E ρ h w) {x y : V} {o o2 : O} {id id2 : Ev.P} {off n off2 n2 : Nat} {c c2 : Option Nat}
    (hx : slOf x = some (id, off, n, c)) (hy : slOf y = some (id2, off2, n2, c2)) (ho : h.t.get id = some o) (ho2 : h.t.get id2 = some o2) (hlo : h.lo.toNat ≤ id.toNat)
    {k : KV} {e : Nat} (hr : cpyO o o2 id off n off2 n2 esz h k e = 0) (he : e ≠ 0) :
    ∃ v h' ρ' w', (Builtin.copy_ #[t, t'] ty #[x.γ E ρ, y.γ E ρ]).run P w = .ok (v.γ E ρ') w' ∧ Sat E ρ' h' w' ∧ Ext ρ h w ρ' h' w' ∧ v.bd h'.n.toNat ∧ k v h' = 0 := by
  obtain ⟨hu, hty, hsz, hbys, ⟨z, hz, hzc⟩, hzl, hzo⟩ := ti_slc hC ht
  obtain ⟨i, hi, hiz, his⟩ := zero_info (E := E) hz ρ
  have his : i.size = esz := by rw [his]; exact hsz
  obtain ⟨c', hxγ, _⟩ := slOf_γ (E := E) hx ρ
  obtain ⟨c2', hyγ, _⟩ := slOf_γ (E := E) hy ρ
  unfold cpyO at hr
  split at hr
  · rename_i l hl
    obtain ⟨hone, hr⟩ := bc_ok hr he
    obtain ⟨o', hp, hr⟩ := putN_ok hr he
    rw [hset_eq] at hr
    obtain ⟨hlen, hbd, hcell⟩ := load_cells hs ho2 hl
    obtain ⟨w', k1, k2, k3⟩ := store_cells (P := P) hs ho hlo hp hbd hone
    refine ⟨.i .i64 (Nat.min n n2), _, ρ, w', ?_, k2, k3, trivial, hr⟩
    have hmin : Nat.min n n2 = Nat.min n2 n := Nat.min_comm _ _
    rw [hxγ, hyγ, run_copy_any hu hi (by rw [γL_length, hlen, his, hmin]) hcell k1, hmin]
    simp [V.γ, goInt]
  · exact absurd hr he
theorem cpy_run {C : Nat → TI} (hC : TiOk P C) {t t' e1 esz by_ : Nat} {ez : List V} (ht : C t = .slc e1 esz by_ ez) (ty : TypeId) {h : H} {ρ : Rho} (hs : Sat E ρ h w) {x y : V}
    {k : KV} {e : Nat} (hr : cpyV h esz x y k e = 0) (he : e ≠ 0) :
    ∃ v h' ρ' w', (Builtin.copy_ #[t, t'] ty #[x.γ E ρ, y.γ E ρ]).run P w = .ok (v.γ E ρ') w' ∧ Sat E ρ' h' w' ∧ Ext ρ h w ρ' h' w' ∧ v.bd h'.n.toNat ∧ k v h' = 0 := by
  unfold cpyV at hr
  split at hr
  rotate_left
  · exact absurd hr he
  rename_i id off n c id2 off2 n2 c2 hx hy
  obtain ⟨hm, hr⟩ := bc_ok hr he
  have hlo := hmay_iff h id hm
  split at hr
  rotate_left
  · exact absurd hr he
  rename_i o o2 ho ho2
  rw [hget_eq] at ho ho2
  split at hr
  · rename_i t1 a d z tr t2 a2 d2 z2 tr2
    rw [bc_eq] at hr
    cases hcond : (Nat.beq n a && Nat.beq n2 a2 && Nat.beq n n2 && Nat.beq off 0 && Nat.beq off2 0 && Nat.beq esz 1 && V.one z2 && allTr V.one tr2) with
    | false => rw [hcond] at hr; exact cpyO_run hC ht ty hs hx hy ho ho2 hlo hr he
    | true =>
      rw [hcond] at hr
      have hr : hset h id (.arr t1 a d2 z2 tr2) (fun h => k (.i .i64 n) h) = 0 := hr
      simp only [Bool.and_eq_true, Nat.beq_eq] at hcond
      obtain ⟨⟨⟨⟨⟨⟨⟨rfl, rfl⟩, rfl⟩, rfl⟩, rfl⟩, hesz⟩, hz1⟩, htr⟩ := hcond
      rw [hset_eq] at hr
      obtain ⟨hu, hty, hsz, hbys, ⟨z', hz, hzc⟩, hzl, hzo⟩ := ti_slc hC ht
      obtain ⟨i, hi, hiz, his⟩ := zero_info (E := E) hz ρ
      have his : i.size = 1 := by rw [his, hsz]; exact hesz
      obtain ⟨c', hxγ, _⟩ := slOf_γ (E := E) hx ρ
      obtain ⟨c2', hyγ, _⟩ := slOf_γ (E := E) hy ρ
      obtain ⟨g1, cs, g2, g3, g4⟩ := hs.obj id _ ho
      obtain ⟨f1, cs2, f2, f3, f4⟩ := hs.obj id2 _ ho2
      have hbd2 := (hs.bd id2 _ ho2).2
      have hlen : (cs2.toList).length = n := by simpa using f3
      have hvs : ∀ (j : Nat) (v : Value), cs2.toList[j]? = some v → ∃ u : V, u.one = true ∧ v = u.γ E ρ := by
        intro j v hv
        have hj : j < n := by rw [← hlen]; exact (List.getElem?_eq_some_iff.1 hv).1
        have h5 := f4 j hj
        rw [← Array.getElem?_toList, hv] at h5
        refine ⟨trAt tr2 d2 z2 j, ?_, Option.some.inj h5⟩
        unfold trAt
        cases hg : tr2.get d2 j with
        | none => exact hz1
        | some v => exact allTr_get _ _ htr _ _ _ hg
      have hst := run_storeCells_at P (ρ id).b 0 t1 cs2.toList 0 cs w g2 (by rw [hlen, g3]; omega) (fun y hy => by
        obtain ⟨j, hj, rfl⟩ := List.mem_iff_getElem.1 hy
        obtain ⟨u, hu1, hu2⟩ := hvs j _ (List.getElem?_eq_getElem hj)
        rw [hu2]; exact one_γ E ρ hu1)
      have hst : (storeCells ⟨(ρ id).b, 0, none⟩ cs2.toList 0).run P w = .ok () (w.setRow (ρ id).b (splice cs 0 cs2.toList)) := by
        unfold splice; exact hst
      have hfit : 0 + (cs2.toList).length ≤ cs.size := by rw [hlen, g3]; omega
      obtain ⟨k1, k2⟩ := sat_put E (w' := w.setRow (ρ id).b (splice cs 0 cs2.toList)) hs ho rfl hlo (.arr t1 n d2 z2 tr2) hbd2
        ⟨f1, _, setRow_heap _ _ _ _ _ _ g2, by rw [splice_size hfit]; exact g3, fun j hj => by
          rw [splice_get hfit, if_pos ⟨Nat.zero_le _, by rw [hlen]; omega⟩, Nat.sub_zero, Array.getElem?_toList]; exact f4 j hj⟩
        (fun b hb => setRow_other _ _ _ _ hb) (by simp [World.setRow]) rfl rfl rfl
      refine ⟨.i .i64 n, _, ρ, _, ?_, k1, k2, trivial, hr⟩
      rw [hxγ, hyγ, run_copy_any hu hi (by rw [hlen, his]; simp) (fun j v hv => by rw [addr_add, cell_at f2, Nat.zero_add, ← Array.getElem?_toList]; exact hv) hst]
      simp [V.γ, goInt]
  · exact cpyO_run hC ht ty hs hx hy ho ho2 hlo hr he
theorem made_one (x : Value) {n i : Nat} (h : i < n) : (madeCells #[x] n)[i]? = some x := by
  simp [madeCells, h, Nat.mod_one]
set_option maxHeartbeats 1000000 in
theorem evI_run {Y : Ty} (hY : TyOk P Y) {o : Oper} {i : IOp} (hc : cOp Y o.op = some i) {fr : Fr} {h : H} {k : KV} {e : Nat} (hr : evI i fr h k e = 0) (he : e ≠ 0)
    {ρ : Rho} {a : Act} (hf : FrOk E ρ h.n.toNat fr a.tmps) (hs : Sat E ρ h w) : ∃ v h', OpPost E P o a ρ h w v h' ∧ k v h' = 0 := by
  by_cases hst : stillO i = true
  · obtain ⟨v, h1, h2, h3⟩ := evI_still hY hc hst hr he (Nat.le_refl _) hf hs
    exact ⟨v, h, ⟨ρ, w, _, h1, .inl rfl, hs, hs.refl E, h2⟩, h3⟩
  obtain ⟨dst, op, ty, pos, aft, gd⟩ := o
  have hc0 := hc
  simp only at hc
  cases op <;> simp only [cOp] at hc
  case alloc t =>
    split at hc
    · rename_i z hz
      simp at hc; subst hc
      obtain ⟨x, hx, rfl, hb, _⟩ := ti_zero (E := E) (w := w) hY.ti hz ρ
      refine new_run hs hr he ?_ (bdL_mono (Nat.zero_le _) _ hb) (by simp [V.bd])
      simp [execOp, Instr.alloc, hx, newVar, newRow, cells_γ, V.γ, ext1]
    · simp at hc
  case box t x =>
    obtain ⟨x', hx, rfl⟩ := map1_some hc
    obtain ⟨v, hv, hr⟩ := oc_ok hr he
    obtain ⟨h1, h2⟩ := od_run hf hx hv
    refine new_run hs hr he ?_ (cells_bd h2) (by simp [V.bd])
    simp [execOp, Instr.box, h1, newVar, newRow, cells_γ, V.γ, ext1]
  case buildSlice t n ps =>
    split at hc
    · rename_i e1 s by1 z ht
      split at hc
      · rename_i hn
        simp only [Bool.and_eq_true, Nat.ble_eq] at hn
        split at hc
        · rename_i ps' hps
          simp at hc; subst hc
          obtain ⟨l, hl, hr⟩ := oc_ok hr he
          obtain ⟨hu, hty, hsz, _, ⟨x, hx, hxz⟩, hzl, _⟩ := ti_slc hY.ti ht
          obtain ⟨h1, _⟩ := isTy_run (w := w) hty
          obtain ⟨hzr, hzb⟩ := zeroOf_run (E := E) (w := w) hx ρ
          have hzb : bdL h.n.toNat z := by rw [← hxz]; exact cells_bd (bd_mono (Nat.zero_le _) _ hzb)
          have hrb : bdL h.n.toNat (repA n z) := by
            rw [bdL_eq] at hzb ⊢
            exact fun y hy => hzb y (repA_mem n z y hy)
          obtain ⟨h2, h3⟩ := fillE_run hf s (fun i => some (i * s, s)) (fun i => rfl) ps.toList ps' (repA n z) l hps hl hrb
          refine new_run hs hr he ?_ h3 (by simp [V.bd])
          have hpos : ¬ (n * s = 0) := by omega
          have hle : ¬ (2 ^ 24 < n * s) := by omega
          have hr := repA_γ (E := E) ρ n z (by
            rcases Nat.eq_zero_or_pos z.length with h0 | h0
            · rw [← hzl, h0] at hn; omega
            · exact h0)
          rw [hzl] at hr
          have h2' : Instr.fill (fun i => some (i * s, s)) (Array.map (fun x => (γL E ρ z).toArray[x % (γL E ρ z).toArray.size]!) (Array.range (n * s))) (ps.toList.map fun (i, x) => (i, a.eval x)) = some (γL E ρ l).toArray := by
            rw [hr]; exact h2
          simp only [execOp, Instr.buildSlice, Sem.run_bind, run_underlying hu, Result.andThen_ok, h1, hsz]
          simp [hpos, hle, hzr, cells_γ, hxz]
          simp at h2'
          simp [h2', newRow, V.γ, ext1]
        · simp at hc
      · simp at hc
    · simp at hc
  case store t x y =>
    split at hc
    · rename_i z hz
      obtain ⟨x', y', hx, hy, rfl⟩ := map2_some hc
      obtain ⟨_, _, _, _, hsz, hszr, _⟩ := ti_zero (E := E) (w := w) hY.ti hz ρ
      have fin : ∀ (id : Ev.P) (off : Nat) (v : V) (oo o' : O), od x' fr = some (.ptr id off) → od y' fr = some v → h.t.get id = some oo → h.lo.toNat ≤ id.toNat → PutOk oo off v.cells o' → v.cells.length = len z → allB V.one v.cells = true → k (.tup []) (h.put id o') = 0 →
          ∃ v h', OpPost E P ⟨dst, .store t x y, ty, pos, aft, gd⟩ a ρ h w v h' ∧ k v h' = 0 := by
        intro id off v oo o' h1 h2 h3 h4 h5 h6 h7 h8
        obtain ⟨g1, g2⟩ := od_run hf hx h1
        obtain ⟨g3, g4⟩ := od_run hf hy h2
        obtain ⟨w', k1, k2, k3⟩ := store_cells (P := P) hs h3 h4 h5 (cells_bd g4) h7
        refine ⟨.tup [], _, ⟨ρ, w', .skip, ?_, .inr ⟨rfl, rfl⟩, k2, k3, trivial⟩, h8⟩
        have hst : (storeVar t ⟨(ρ id).b, off, none⟩ (v.γ E ρ)).run P w = .ok () w' := by
          unfold storeVar
          have hs2 : (v.γ E ρ).cells.size = sizeP P t := by rw [cells_γ]; simp [γL_length, h6, len_eq, hsz]
          simp only [Sem.run_bind, hszr, Result.andThen_ok, hs2, ne_eq, not_true_eq_false, if_false]
          rw [cells_γ]
          simpa using k1
        simp [execOp, g1, g3, V.γ, Instr.storeAt, Instr.sureAddr, hst]
      have hr : bc (Nat.beq (len z) 1) (eSt1 x' y') (eStN (len z) x' y') fr h k e = 0 := hr
      cases hb : Nat.beq (len z) 1 with
      | true =>
        rw [hb] at hr
        have hr : eSt1 x' y' fr h k e = 0 := hr
        have h1 : len z = 1 := by simpa using hb
        obtain ⟨id, off, hp, hr⟩ := vPtr_ok hr he
        obtain ⟨v, hv, hr⟩ := oc_ok hr he
        obtain ⟨hm, hr⟩ := bc_ok hr he
        obtain ⟨oo, ho, hr⟩ := oc_ok hr he
        obtain ⟨hone, hr⟩ := bc_ok hr he
        obtain ⟨o', hp', hr⟩ := put1_ok hr he
        rw [hset_eq] at hr
        rw [hget_eq] at ho
        have hcl := one_cells hone
        exact fin id off v oo o' hp hv ho (hmay_iff h id hm) (by rw [hcl]; exact hp') (by rw [hcl, h1]; rfl) (by rw [hcl]; simp [allB, allC, hone]) hr
      | false =>
        rw [hb] at hr
        have hr : eStN (len z) x' y' fr h k e = 0 := hr
        obtain ⟨id, off, hp, hr⟩ := vPtr_ok hr he
        obtain ⟨v, hv, hr⟩ := oc_ok hr he
        obtain ⟨hm, hr⟩ := bc_ok hr he
        obtain ⟨oo, ho, hr⟩ := oc_ok hr he
        obtain ⟨hlen, hr⟩ := bc_ok hr he
        obtain ⟨hone, hr⟩ := bc_ok hr he
        obtain ⟨o', hp', hr⟩ := putN_ok hr he
        rw [hset_eq] at hr
        rw [hget_eq] at ho
        exact fin id off v oo o' hp hv ho (hmay_iff h id hm) hp' (by simpa [len_eq] using hlen) hone hr
    · simp at hc
  case makeSlice t l c =>
    split at hc
    · rename_i e1 esz by1 z ht
      obtain ⟨x', y', hx, hy, rfl⟩ := map2_some hc
      have hr : eMsl e1 z esz by1 x' y' fr h k e = 0 := hr
      unfold eMsl at hr
      split at hr
      · rename_i k1 m k2 cc g1 g2
        obtain ⟨h1, _⟩ := od_run hf hx g1
        obtain ⟨h2, _⟩ := od_run hf hy g2
        obtain ⟨hcond, hr2⟩ := bc_ok hr he
        simp only [Bool.and_eq_true, Nat.beq_eq, Nat.ble_eq] at hcond
        obtain ⟨⟨⟨rfl, hone⟩, hmc⟩, hby⟩ := hcond
        have h4 : cc ≤ 65536 := by
          cases h3 : Nat.ble cc 8192 with
          | true => have : cc ≤ 8192 := by simpa using h3
                    omega
          | false =>
            rw [h3] at hr2
            obtain ⟨h3, _⟩ := bc_ok (show bc (Nat.ble cc 65536) _ e = 0 from hr2) he
            simpa using h3
        obtain ⟨hu, hty, hsz, hbys, ⟨x, hx2, hxz⟩, _⟩ := ti_slc hY.ti ht
        obtain ⟨i, hi, hiz, his⟩ := zero_info (E := E) hx2 ρ
        have hib : i.bytes = by1 := by rw [← hbys]; simp [bytesP, hi]
        have hzb : z.bd h.n.toNat := by
          have := cells_bd (zeroOf_run (E := E) (w := w) hx2 ρ).2
          rw [hxz] at this
          exact bd_mono (Nat.zero_le _) _ this.1
        have hby2 : (i.bytes : Int) * (cc : Int) ≤ 281474976710656 := by rw [hib, ← Int.natCast_mul]; exact Int.ofNat_le.2 hby
        have h63 : (cc : Int) ≤ 9223372036854775807 := by omega
        have hrun := run_make (P := P) w t e1 i (x.γ E ρ) hu hi hiz k1 k2 (m : Int) (cc : Int) (Int.natCast_nonneg _) (Int.ofNat_le.2 hmc) hby2 h63
        have hcells : madeCells (x.γ E ρ).cells ((cc : Int).toNat * i.size) = madeCells #[z.γ E ρ] cc := by
          have e1 : i.size = 1 := by rw [his]; exact hsz
          rw [cells_γ, hxz, e1, Int.toNat_natCast, Nat.mul_one]; rfl
        rw [hcells] at hrun
        have isArr : ∀ d, cc ≤ 2 ^ d → (O.arr e1 cc d z .nil).Is E ρ ⟨w.heap.size, 0⟩ (w.alloc (.cells (madeCells #[z.γ E ρ] cc) e1)).heap := by
          intro d hd
          refine ⟨hd, _, by show (w.heap.push _)[w.heap.size]? = _; rw [Array.getElem?_push, if_pos rfl], by simp [madeCells], fun i hi => ?_⟩
          have e2 : trAt (Tr.nil : Tr V) d z i = z := by simp [trAt, Tr.get_nil]
          rw [e2]
          exact made_one _ hi
        have fin : ∀ d, cc ≤ 2 ^ d → hnew h (.arr e1 cc d z .nil) (fun i h => k (.sl i 0 m cc) h) = 0 → ∃ v h', OpPost E P ⟨dst, .makeSlice t l c, ty, pos, aft, gd⟩ a ρ h w v h' ∧ k v h' = 0 := by
          intro d hd hr
          rw [hnew_eq] at hr
          obtain ⟨q1, q2⟩ := sat_add E (w' := w.alloc (.cells (madeCells #[z.γ E ρ] cc) e1)) hs (.arr e1 cc d z .nil) ⟨hzb, fun i v _ hv => by rw [Tr.get_nil] at hv; simp at hv⟩ ⟨w.heap.size, 0⟩ (fun _ => Nat.le_refl _) (isArr d hd)
            (fun b hb => by rw [heap_alloc, Array.getElem?_push, if_neg (by omega)]) (by simp [heap_alloc]) rfl rfl rfl
          refine ⟨_, _, ⟨_, _, .value (.slice (some ⟨w.heap.size, 0, none⟩) m cc), ?_, .inl ?_, q1, q2, ?_⟩, hr⟩
          · simp only [execOp, h1, h2, V.γ, Int.ofNat_eq_natCast, Sem.run_bind, hrun, Result.andThen_ok]
            simp
          · simp [V.γ, ext1]
          · simp [V.bd, H.add]
        cases h3 : Nat.ble cc 8192 with
        | true =>
          rw [h3] at hr2
          exact fin 13 (by have : cc ≤ 8192 := by simpa using h3
                           omega) hr2
        | false =>
          rw [h3] at hr2
          obtain ⟨h3, hr2⟩ := bc_ok (show bc (Nat.ble cc 65536) _ e = 0 from hr2) he
          exact fin 16 (by omega) hr2
      · exact absurd hr he
    · simp at hc
  case call cl =>
    split at hc
    · simp at hc
    · rename_i b hcal
      have bin : ∀ {x y : Operand} {r : Value} {w' : World}, cl.args.toList = [x, y] → (∀ cs, (builtin b cl.argTypes ty cs #[a.eval x, a.eval y]).run P w = .ok (.value r) w') →
          (execOp a.eval ⟨dst, .call cl, ty, pos, aft, gd⟩).run P w = .ok (.value r) w' := by
        intro x y r w' hxs hrun
        have harg : cl.args.map a.eval = #[a.eval x, a.eval y] := Array.toList_inj.1 (by rw [Array.toList_map, hxs]; rfl)
        simp [execOp, resolve, hcal, invoke, harg, hrun]
      split at hc
      · rename_i t x hty hxs
        split at hc
        · obtain ⟨x', hx, rfl⟩ := map1_some hc; simp [stillO, IOp.go] at hst
        · simp at hc; subst hc; simp [stillO, IOp.go] at hst
        · simp at hc
      · obtain ⟨x', y', _, _, rfl⟩ := map2_some hc; simp [stillO, IOp.go] at hst
      · obtain ⟨x', y', _, _, rfl⟩ := map2_some hc; simp [stillO, IOp.go] at hst
      · rename_i t t' x y hty hxs
        have hty0 : cl.argTypes = #[t, t'] := Array.toList_inj.1 (by rw [hty])
        split at hc
        · rename_i e1 esz by1 z ht
          split at hc
          · rename_i htt
            have htt : t = t' := by simpa using htt
            subst htt
            obtain ⟨x', y', hx, hy, rfl⟩ := map2_some hc
            have hr : eApp e1 esz by1 x' y' fr h k e = 0 := hr
            obtain ⟨x1, hx1, hr⟩ := oc_ok hr he
            obtain ⟨y1, hy1, hr⟩ := oc_ok hr he
            obtain ⟨q1, q2⟩ := od_run hf hx hx1
            obtain ⟨q3, q4⟩ := od_run hf hy hy1
            obtain ⟨v, h', ρ', w', r1, r2, r3, r4, r5⟩ := app_run (P := P) hY.ti ht ty hs q2 hr he
            refine ⟨v, h', ⟨ρ', w', _, bin hxs (fun cs => ?_), .inl rfl, r2, r3, r4⟩, r5⟩
            rw [hty0, q1, q3]; simp [builtin, r1]
          · simp at hc
        · simp at hc
      · rename_i t t' x y hty hxs
        have hty0 : cl.argTypes = #[t, t'] := Array.toList_inj.1 (by rw [hty])
        split at hc
        · rename_i e1 esz by1 z e2 esz2 by2 z2 ht ht2
          split at hc
          · obtain ⟨x', y', hx, hy, rfl⟩ := map2_some hc
            have hr : eCpy esz x' y' fr h k e = 0 := hr
            obtain ⟨x1, hx1, hr⟩ := oc_ok hr he
            obtain ⟨y1, hy1, hr⟩ := oc_ok hr he
            obtain ⟨q1, q2⟩ := od_run hf hx hx1
            obtain ⟨q3, q4⟩ := od_run hf hy hy1
            obtain ⟨v, h', ρ', w', r1, r2, r3, r4, r5⟩ := cpy_run (P := P) (t' := t') hY.ti ht ty hs hr he
            refine ⟨v, h', ⟨ρ', w', _, bin hxs (fun cs => ?_), .inl rfl, r2, r3, r4⟩, r5⟩
            rw [hty0, q1, q3]; simp [builtin, r1]
          · simp at hc
        · simp at hc
      · simp at hc
    · simp at hc
  case makeFunc f first caps =>
    split at hc
    · simp at hc; subst hc; simp [stillO, IOp.go] at hst
    · simp at hc
  all_goals first
    | (exfalso; simp at hc; done)
    | (exfalso
       (repeat' split at hc) <;> first
        | (simp at hc; done)
        | (obtain ⟨_, _, rfl⟩ := map1_some hc; simp [stillO, IOp.go] at hst; done)
        | (obtain ⟨_, _, _, _, rfl⟩ := map2_some hc; simp [stillO, IOp.go] at hst; done)
        | (simp at hc; subst hc; simp [stillO, IOp.go] at hst; done))
end Go.Ev
end
