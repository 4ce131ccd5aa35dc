/- Loops, by families of states. -/
import Derived.Test.YtjpnpaboahbncaaSxUse
import Derived.Deep.LoopGhost
set_option linter.unusedVariables false
set_option linter.unusedSimpArgs false
namespace Go.Proofs.Ytjpnpaboahbncaa.Sx
open Go Go.RowKit

theorem SC.den_congr {ρ ρ' : Rho} {c : SC} (h : ∀ k ∈ c.keys, ρ' k = ρ k) : c.den ρ' = c.den ρ := by
  cases c <;> simp_all [SC.keys, SC.den, place]
theorem SV.den_congr {ρ ρ' : Rho} {c : SV} (h : ∀ k ∈ c.allKeys, ρ' k = ρ k) : c.den ρ' = c.den ρ := by
  cases c with
  | c x => exact SC.den_congr h
  | a l =>
    simp only [SV.den]
    congr 2
    exact List.map_congr_left fun x hx => SC.den_congr fun k hk => h k (List.mem_flatMap.2 ⟨x, hx, hk⟩)
  | t l =>
    simp only [SV.den]
    congr 2
    refine List.map_congr_left fun x hx => ?_
    have hx' : ∀ k ∈ x.keys, ρ' k = ρ k := fun k hk => h k (List.mem_flatMap.2 ⟨x, hx, hk⟩)
    cases x with
    | c y => exact SC.den_congr hx'
    | a m =>
      simp only [TE.den]
      congr 2
      exact List.map_congr_left fun y hy => SC.den_congr fun k hk => hx' k (List.mem_flatMap.2 ⟨y, hy, hk⟩)
def keysB (n : Nat) (l : List Nat) : Bool := l.all fun k => Nat.blt k n
theorem keysB_h {n : Nat} {l : List Nat} (h : keysB n l = true) : ∀ k ∈ l, k < n := by
  intro k hk
  have := List.all_eq_true.1 h k hk
  rwa [Nat.blt_eq] at this
def tmOK (n : Nat) : List (Option SV) → Bool
  | [] => true
  | none :: l => tmOK n l
  | some v :: l => keysB n v.allKeys && tmOK n l
theorem tmOK_h {n : Nat} : ∀ {l : List (Option SV)}, tmOK n l = true → ∀ (i : Nat) v, l[i]? = some (some v) → ∀ k ∈ v.allKeys, k < n
  | [], _, i, v, h => by simp at h
  | none :: l, ho, i, v, h => by
    cases i with
    | zero => simp at h
    | succ i => exact tmOK_h (l := l) ho i v (by simpa using h)
  | some x :: l, ho, i, v, h => by
    simp only [tmOK, Bool.and_eq_true] at ho
    cases i with
    | zero => simp at h; subst h; exact keysB_h ho.1
    | succ i => exact tmOK_h ho.2 i v (by simpa using h)
def hpOK (n : Nat) : HL → Bool
  | [] => true
  | (k, b) :: l => Nat.blt k n && keysB n b.keys && hpOK n l
theorem hpOK_h {n : Nat} : ∀ {l : HL}, hpOK n l = true → ∀ k b, find k l = some b → k < n ∧ ∀ j ∈ b.keys, j < n
  | [], _, k, b, h => by simp [find] at h
  | (k', b') :: l, ho, k, b, h => by
    simp only [hpOK, Bool.and_eq_true, Nat.blt_eq] at ho
    rw [find_cons] at h
    split at h
    · rename_i e; cases h; subst e; exact ⟨ho.1.1, keysB_h ho.1.2⟩
    · exact hpOK_h ho.2 k b h
def stOK (s : St) : Bool := tmOK s.H.nxt s.tmps && hpOK s.H.nxt s.H.h

theorem CIs.shrink {n m : Nat → Prop} {ρ : Rho} {c : SC} {v : Value} (h : CIs n ρ c v) (hk : ∀ k ∈ c.keys, m k) : CIs m ρ c v := fun r ha => by
  rw [SC.den_congr (ρ := ρ) fun k hk' => ha k (hk k hk')]
  exact h ρ (.refl _ _)
theorem SIs.shrink {n m : Nat → Prop} {ρ : Rho} {c : SV} {v : Value} (h : SIs n ρ c v) (hk : ∀ k ∈ c.allKeys, m k) : SIs m ρ c v := fun r ha => by
  rw [SV.den_congr (ρ := ρ) fun k hk' => ha k (hk k hk')]
  exact h ρ (.refl _ _)
theorem CIs.of_keys {m : Nat → Prop} {ρ : Rho} {c : SC} {v : Value} (h : c.den ρ = v) (hk : ∀ k ∈ c.keys, m k) : CIs m ρ c v := fun r ha => by
  rw [SC.den_congr (ρ := ρ) fun k hk' => ha k (hk k hk')]; exact h
theorem SIs.of_keys {m : Nat → Prop} {ρ : Rho} {c : SV} {v : Value} (h : c.den ρ = v) (hk : ∀ k ∈ c.allKeys, m k) : SIs m ρ c v := fun r ha => by
  rw [SV.den_congr (ρ := ρ) fun k hk' => ha k (hk k hk')]; exact h
theorem Col.get_keys : ∀ {c : Col} {i e : Nat} {x : SC}, c.get i e = some x → ∀ k ∈ x.keys, k ∈ c.keys := by
  intro c
  induction c with
  | ci k g => intro i e x h; simp [Col.get] at h; subst h; intro k hk; simp [SC.keys] at hk
  | cb g => intro i e x h; simp [Col.get] at h; subst h; intro k hk; simp [SC.keys] at hk
  | cs key sz ix len cap => intro i e x h; simp [Col.get] at h; subst h; intro k hk; simpa [SC.keys, Col.keys] using hk
  | cp key ix f sz => intro i e x h; simp [Col.get] at h; subst h; intro k hk; simpa [SC.keys, Col.keys] using hk
  | cf t key ix f sz => intro i e x h; simp [Col.get] at h; subst h; intro k hk; simpa [SC.keys, Col.keys] using hk
  | ck l =>
    intro i e x h
    simp only [Col.get] at h
    exact fun k hk => List.mem_flatMap.2 ⟨x, List.mem_of_getElem? h, hk⟩
  | cu => intro i e x h; simp [Col.get] at h
  | cc d => intro i e x h; simp [Col.get] at h; subst h; intro k hk; exact hk
  | ov i0 e0 d col ih =>
    intro i e x h k hk
    simp only [Col.get] at h
    split at h
    · cases h; exact List.mem_append.2 (.inl hk)
    · exact List.mem_append.2 (.inr (ih h k hk))
theorem Blk.sat_shrink {n m : Nat → Prop} {ρ : Rho} {key : Nat} {w : World} {b : Blk} (h : b.sat n ρ key w) (hk : ∀ k ∈ b.keys, m k) : b.sat m ρ key w := by
  cases b with
  | own t size cs =>
    obtain ⟨y, arr, h1, h2, h3, h4, h5⟩ := h
    exact ⟨y, arr, h1, h2, h3, h4, fun i c hc => let ⟨v, hv, hi⟩ := h5 i c hc; ⟨v, hv, hi.shrink fun k hk' => hk k (List.mem_flatMap.2 ⟨some c, List.mem_of_getElem? hc, hk'⟩)⟩⟩
  | row t cap l cols =>
    rcases h with h | ⟨y, arr, h1, h2, h3, h4, h4', h5⟩
    · exact .inl h
    exact .inr ⟨y, arr, h1, h2, h3, h4, h4', fun e he f col c hf hc => let ⟨v, hv, hs⟩ := h5 e he f col c hf hc
      ⟨v, hv, hs.shrink fun k hk' => hk k (List.mem_flatMap.2 ⟨col, List.mem_of_getElem? hf, Col.get_keys hc k hk'⟩)⟩⟩
  | view l len cols =>
    intro i hi q hq
    obtain ⟨y, o, h1, h2⟩ := h i hi q hq
    exact ⟨y, o, h1, fun f col c hf hc => let ⟨v, hv, hs⟩ := h2 f col c hf hc
      ⟨v, hv, hs.shrink fun k hk' => hk k (List.mem_flatMap.2 ⟨col, List.mem_of_getElem? hf, Col.get_keys hc k hk'⟩)⟩⟩
  | fam rw t cap len cols =>
    obtain ⟨h1, h2, h3⟩ := h
    refine ⟨h1, h2, fun i hi => ?_⟩
    obtain ⟨y, arr, g1, g2, g3, g4⟩ := h3 i hi
    exact ⟨y, arr, g1, g2, g3, fun e he f col c hf hc => let ⟨v, hv, hs⟩ := g4 e he f col c hf hc
      ⟨v, hv, hs.shrink fun k hk' => hk k (List.mem_flatMap.2 ⟨col, List.mem_of_getElem? hf, Col.get_keys hc k hk'⟩)⟩⟩

/-- Names that nobody bears may be given again. -/
theorem Inv.reset {φ : Fr} {ρ : Rho} {s : St} {a : Act} {w : World} (h : Inv φ ρ s a w) {n : Nat} (hD : s.H.D = fun _ => True) (hk : stOK ⟨s.tmps, ⟨s.H.h, n, s.H.D⟩⟩ = true) : Inv φ ρ ⟨s.tmps, ⟨s.H.h, n, s.H.D⟩⟩ a w := by
  simp only [stOK, Bool.and_eq_true] at hk
  obtain ⟨k1, k2⟩ := hk
  have hsc : ∀ k, k < n → Hp.sc ⟨s.H.h, n, s.H.D⟩ k := fun k hk => ⟨hk, by rw [hD]; trivial⟩
  refine ⟨⟨h.heap.fr, fun k _ => by rw [hD]; trivial, fun k b hf => hsc k (hpOK_h k2 k b hf).1, fun k b hf => Blk.sat_shrink (h.heap.sat k b hf) fun j hj => hsc j ((hpOK_h k2 k b hf).2 j hj), h.heap.bd, h.heap.may, h.heap.sep⟩, h.defers, h.size, ?_⟩
  intro k sv hk
  obtain ⟨v, hv, hs⟩ := h.tmps k sv hk
  exact ⟨v, hv, hs.shrink fun j hj => hsc j (tmOK_h k1 k sv hk j hj)⟩

/-- From a state to one that says no more, and names no name beyond its own. -/
def goSt (s t : St) : Prop := s.H.D = (fun _ => True) ∧ t.H.D = (fun _ => True) ∧ leTm s.tmps t.tmps ∧ leHL s.H.h t.H.h
theorem Inv.go {φ : Fr} {ρ : Rho} {s t : St} {a : Act} {w : World} (h : Inv φ ρ s a w) (hl : goSt s t) (hk : stOK t = true) : Inv φ ρ t a w := by
  obtain ⟨hs, ht, h1, h2⟩ := hl
  have g : Inv φ ρ ⟨t.tmps, ⟨t.H.h, max s.H.nxt t.H.nxt, t.H.D⟩⟩ a w := h.le ⟨by rw [hs, ht], Nat.le_max_left _ _, h1, h2⟩
  exact g.reset (n := t.H.nxt) ht hk

/-! ### Other names -/
def tauL (m0 : Nat) (L : List Nat) (k : Nat) : Nat := match Nat.blt k m0 with | true => k | false => (L[k - m0]?).getD k
theorem Blk.sat_unrenK {n m : Nat → Prop} {ρ : Rho} {τ : Nat → Nat} {b : Blk} {k : Nat} {w : World} (h : (b.ren τ).sat n ρ (τ k) w) (hk : ∀ j ∈ b.keys, m j) : b.sat m (fun k => ρ (τ k)) k w := by
  have ci : ∀ {c : SC} {v : Value}, CIs n ρ (c.ren τ) v → (∀ j ∈ c.keys, m j) → CIs m (fun k => ρ (τ k)) c v := fun hc hk => .of_keys (by rw [← SC.ren_den]; exact hc.eq.symm) hk
  cases b with
  | own t size cs =>
    obtain ⟨y, arr, h1, h2, h3, h4, h5⟩ := h
    refine ⟨y, arr, h1, h2, h3, by simpa using h4, fun i c hi => ?_⟩
    obtain ⟨v, hv, hs⟩ := h5 i (c.ren τ) (by simp [hi])
    exact ⟨v, hv, ci hs fun j hj => hk j (List.mem_flatMap.2 ⟨some c, List.mem_of_getElem? hi, hj⟩)⟩
  | row t cap l cols =>
    rcases h with h | ⟨y, arr, h1, h2, h3, h4, h4', h5⟩
    · exact .inl h
    refine .inr ⟨y, arr, h1, h2, by simpa using h3, h4, h4', fun q hq f' col c hf hcol => ?_⟩
    obtain ⟨v, hv, hs⟩ := h5 q hq f' (col.ren τ) (c.ren τ) (by simp [hf]) (by rw [Col.ren_get, hcol]; rfl)
    exact ⟨v, by simpa using hv, ci hs fun j hj => hk j (List.mem_flatMap.2 ⟨col, List.mem_of_getElem? hf, Col.get_keys hcol j hj⟩)⟩
  | view l len cols =>
    intro i hi q hq
    obtain ⟨y, o, h1, h2⟩ := h i hi q hq
    refine ⟨y, o, h1, fun f' col c hf hcol => ?_⟩
    obtain ⟨v, hv, hs⟩ := h2 f' (col.ren τ) (c.ren τ) (by simp [hf]) (by rw [Col.ren_get, hcol]; rfl)
    exact ⟨v, by simpa using hv, ci hs fun j hj => hk j (List.mem_flatMap.2 ⟨col, List.mem_of_getElem? hf, Col.get_keys hcol j hj⟩)⟩
  | fam rw t cap len cols =>
    obtain ⟨h1, h2, h3⟩ := h
    refine ⟨h1, h2, fun i hi => ?_⟩
    obtain ⟨y, arr, g1, g2, g3, g4⟩ := h3 i hi
    refine ⟨y, arr, g1, g2, by simpa using g3, fun q hq f' col c hf hcol => ?_⟩
    obtain ⟨v, hv, hs⟩ := g4 q hq f' (col.ren τ) (c.ren τ) (by simp [hf]) (by rw [Col.ren_get, hcol]; rfl)
    exact ⟨v, by simpa using hv, ci hs fun j hj => hk j (List.mem_flatMap.2 ⟨col, List.mem_of_getElem? hf, Col.get_keys hcol j hj⟩)⟩

/-- From a state to one that says no more, under other names from 'm0' on. -/
def goR (m0 : Nat) (L : List Nat) (s t : St) : Prop := s.H.D = (fun _ => True) ∧ t.H.D = (fun _ => True) ∧ (leTm s.tmps (t.tmps.map (Option.map (SV.ren (tauL m0 L)))) ∧ leHLr (tauL m0 L) s.H.h t.H.h) ∧ nodupB (t.H.h.map fun p => tauL m0 L p.1) = true
def goE (m0 : Nat) (L : List Nat) (s t : St) : Prop := (∀ k, s.H.D k) ∧ (∀ k, t.H.D k) ∧ leTm s.tmps (t.tmps.map (Option.map (SV.ren (tauL m0 L)))) ∧ leHLr (tauL m0 L) s.H.h t.H.h
def nodupR (m0 : Nat) (L : List Nat) (t : St) : Bool := nodupB (t.H.h.map fun p => tauL m0 L p.1)
theorem find_idx {k : Nat} {b : Blk} : ∀ {h : HL}, find k h = some b → ∃ i : Nat, ∃ p : Nat × Blk, h[i]? = some p ∧ p.1 = k
  | [], h => by simp [find] at h
  | (k', b') :: t, h => by
    rw [find_cons] at h
    split at h
    · rename_i e; exact ⟨0, (k', b'), rfl, e.symm⟩
    · obtain ⟨i, p, h1, h2⟩ := find_idx h
      exact ⟨i + 1, p, by simpa using h1, h2⟩
theorem Inv.goR {φ : Fr} {ρ : Rho} {s t : St} {a : Act} {w : World} {m0 : Nat} {L : List Nat} (h : Inv φ ρ s a w) (hg : goR m0 L s t) (hk : stOK t = true) : ∃ ρ' : Rho, (∀ k, k < m0 → ρ' k = ρ k) ∧ Inv φ ρ' t a w := by
  obtain ⟨hs, ht, ⟨h1, h2⟩, h3⟩ := hg
  simp only [stOK, Bool.and_eq_true] at hk
  obtain ⟨k1, k2⟩ := hk
  have hsc : ∀ k, k < t.H.nxt → t.H.sc k := fun k hk => ⟨hk, by rw [ht]; trivial⟩
  have at' : ∀ k b, find k t.H.h = some b → ∃ c, find (tauL m0 L k) s.H.h = some c ∧ leBlk c (b.ren (tauL m0 L)) := fun k b hf => leHLr_at h2 k b hf
  refine ⟨fun k => ρ (tauL m0 L k), fun k hk => ?_, ⟨⟨h.heap.fr, fun k _ => by rw [ht]; trivial, fun k b hf => hsc k (hpOK_h k2 k b hf).1, ?_, ?_, ?_, ?_⟩, h.defers, ?_, ?_⟩⟩
  · have : Nat.blt k m0 = true := by rw [Nat.blt_eq]; exact hk
    simp only [tauL, this]
  · intro k b hf
    obtain ⟨c, hc, hle⟩ := at' k b hf
    exact Blk.sat_unrenK (Blk.sat_le hle (h.heap.sat _ c hc)) fun j hj => hsc j ((hpOK_h k2 k b hf).2 j hj)
  · intro k b hf i hi y o hy
    obtain ⟨c, hc, hle⟩ := at' k b hf
    exact h.heap.bd _ c hc i (leBlk_live hle (by rw [Blk.ren_live]; exact hi)) y o hy
  · intro k b hf hr i hi y o hy
    obtain ⟨c, hc, hle⟩ := at' k b hf
    exact h.heap.may _ c hc (leBlk_row hle (by rw [Blk.ren_isRow]; exact hr)) i (leBlk_live hle (by rw [Blk.ren_live]; exact hi)) y o hy
  · intro k b hf hr k' b' hf' hne j i hj hi y o y' o' hy hy'
    obtain ⟨c, hc, hle⟩ := at' k b hf
    obtain ⟨c', hc', hle'⟩ := at' k' b' hf'
    have hne' : tauL m0 L k' ≠ tauL m0 L k := by
      intro e
      obtain ⟨x, p, hx, rfl⟩ := find_idx hf
      obtain ⟨x', p', hx', rfl⟩ := find_idx hf'
      have := nodupB_h h3 x x' (tauL m0 L p.1) (by simp [hx]) (by simp [hx', e])
      subst this
      rw [hx] at hx'; cases hx'
      exact hne rfl
    exact h.heap.sep _ c hc (leBlk_row hle (by rw [Blk.ren_isRow]; exact hr)) _ c' hc' hne' j i (leBlk_live hle (by rw [Blk.ren_live]; exact hj)) (leBlk_live hle' (by rw [Blk.ren_live]; exact hi)) y o y' o' hy hy'
  · rw [h.size, ← (leTm_at h1).1, List.length_map]
  · intro k sv hv
    obtain ⟨x, hx, hle⟩ := (leTm_at h1).2 k (sv.ren (tauL m0 L)) (by simp [hv])
    obtain ⟨v, hv', hi⟩ := h.tmps k x hx
    exact ⟨v, hv', .of_keys (by rw [← SV.ren_den]; exact (hi.le hle).eq.symm) fun j hj => hsc j (tmOK_h k1 k sv hv j hj)⟩

def RoundEnd {X : Type} (J : X → St) (I : X → Prop) (μ : X → Nat) (m0 n : Nat) (K : Ex × St → Prop) (x : X) (r : Ex × St) : Prop :=
  match r.1 with
  | .normal => ∃ x' L, I x' ∧ μ x' < μ x ∧ goR m0 L r.2 (J x')
  | e => ∃ t L, goR m0 L r.2 t ∧ stOK t = true ∧ n ≤ t.H.nxt ∧ K (e, t)

theorem loop_ok {P : Program} {callT : CallT} (hc : CallOK P callT) {S u : Nat} {c : Code} {X : Type} {ann : X → Ann} (J : X → St) (I : X → Prop) (hann : ∀ x, I x → AnnOK P c (ann x)) (μ : X → Nat) (m0 n : Nat) (hm : m0 ≤ n) (hn : ∀ x, (J x).H.nxt = n) (hD : ∀ x, (J x).H.D = fun _ => True)
    (hJ : ∀ x, stOK (J x) = true) (x0 : X) (L0 : List Nat) (A : Out (Ex × St)) (round : ∀ x, I x → ∀ K, A.holds K → (execC P callT S u m0 c (ann x) (J x)).holds (RoundEnd J I μ m0 n K x)) :
    LoopOK P c (fun n0 s => chk (Nat.ble n0 m0 && nodupR m0 L0 (J x0)) (.need (I x0 ∧ goE m0 L0 s (J x0)) A)) := by
  intro φ ρ H0 s a w K Q h hl hh hQ
  obtain ⟨hb, ⟨hx0, e1, e2, e3, e4⟩, hA⟩ := chk_holds hh
  simp only [Bool.and_eq_true] at hb
  obtain ⟨hb, hnd⟩ := hb
  have hgo : Sx.goR m0 L0 s (J x0) := ⟨funext fun k => propext ⟨fun _ => trivial, fun _ => e1 k⟩, funext fun k => propext ⟨fun _ => trivial, fun _ => e2 k⟩, ⟨e3, e4⟩, hnd⟩
  have hb := Nat.le_of_ble_eq_true hb
  obtain ⟨ρ0, hρ0, h0⟩ := h.goR hgo (hJ x0)
  have hD0 : H0.D = fun _ => True := by rw [← hl.D]; exact hgo.1
  have hle : ∀ x, H0.le (J x).H := fun x => ⟨by rw [hn]; omega, by rw [hD, hD0]⟩
  have hle' : ∀ x, Hp.le ⟨[], m0, fun _ => True⟩ (J x).H := fun x => ⟨by rw [hn]; exact hm, by rw [hD]⟩
  have base : ∀ {ρ1 ρ2 : Rho}, (∀ k, k < m0 → ρ2 k = ρ1 k) → Agree H0.sc ρ1 ρ2 := fun h k hk => h k (Nat.lt_of_lt_of_le hk.1 hb)
  have base' : ∀ {ρ1 ρ2 : Rho}, Agree (Hp.sc ⟨[], m0, fun _ => True⟩) ρ1 ρ2 → ∀ k, k < m0 → ρ2 k = ρ1 k := fun h k hk => h k ⟨hk, trivial⟩
  refine wp_loop_ghost (fun m a w => ∃ x ρ', μ x = m ∧ I x ∧ (∀ k, k < m0 → ρ' k = ρ k) ∧ Inv φ ρ' (J x) a w) (μ x0) ⟨x0, ρ0, rfl, hx0, hρ0, h0⟩ ?_
  rintro m a w ⟨x, ρ', rfl, hx, hag, hI⟩
  refine execC_ok (H0 := ⟨[], m0, fun _ => True⟩) hc c (ann x) (hann x hx) hI (hle' x) (round x hx K hA) ?_
  intro e s' ρ2 a2 w2 hr h1 h2 h3
  have hag2 : ∀ k, k < m0 → ρ2 k = ρ k := fun k hk => (base' h1 k hk).trans (hag k hk)
  have exits : ∀ e : Ex, (∃ t L, goR m0 L s' t ∧ stOK t = true ∧ n ≤ t.H.nxt ∧ K (e, t)) → Q e.to a2 w2 := by
    rintro e ⟨t, L, g1, g2, g3, g4⟩
    obtain ⟨ρ3, k1, k2⟩ := h3.goR g1 g2
    refine hQ e t ρ3 a2 w2 g4 (base fun k hk => (k1 k hk).trans (hag2 k hk)) ⟨?_, ?_⟩ k2
    · omega
    · rw [g1.2.1, hD0]
  cases e with
  | normal =>
    obtain ⟨x', L, g1, g2, g3⟩ := hr
    obtain ⟨ρ3, k1, k2⟩ := h3.goR g3 (hJ x')
    exact ⟨μ x', g2, x', ρ3, rfl, g1, fun k hk => (k1 k hk).trans (hag2 k hk), k2⟩
  | exit i => exact exits (.exit i) hr
  | ret => exact exits .ret hr

/-- A loop of which each of several descriptions is true. -/
theorem loop_pick {P : Program} {c : Code} {Y : Type} {l : Y → Nat → LoopFn} (h : ∀ y, LoopOK P c (l y)) (f : St → Option Y) : LoopOK P c (fun n0 s => opt (f s) (fun y => l y n0 s) 330) := by
  intro φ ρ H0 s a w K Q hi hl hh hQ
  obtain ⟨y, _, hh⟩ := opt_holds hh
  exact h y φ ρ H0 s a w K Q hi hl hh hQ
end Go.Proofs.Ytjpnpaboahbncaa.Sx
