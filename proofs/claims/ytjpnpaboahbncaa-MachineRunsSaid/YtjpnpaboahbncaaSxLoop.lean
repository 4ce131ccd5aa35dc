/- Loops, by families of states. -/
import Derived.Test.YtjpnpaboahbncaaSxUse
import Derived.Deep.LoopGhost
set_option linter.unusedVariables false
set_option linter.unusedSimpArgs false
namespace Go.Proofs.Ytjpnpaboahbncaa.Sx
open Go Go.RowKit

theorem SC.den_congr {ρ ρ' : Rho} {c : SC} (h : ∀ k ∈ c.keys, ρ' k = ρ k) : c.den ρ' = c.den ρ := by
  cases c <;> simp_all [SC.keys, SC.den, place]
theorem SV.den_congr {ρ ρ' : Rho} {c : SV} (h : ∀ k ∈ c.allKeys, ρ' k = ρ k) : c.den ρ' = c.den ρ := by
  cases c with
  | c x => exact SC.den_congr h
  | a l =>
    simp only [SV.den]
    congr 2
    exact List.map_congr_left fun x hx => SC.den_congr fun k hk => h k (List.mem_flatMap.2 ⟨x, hx, hk⟩)
  | t l =>
    simp only [SV.den]
    congr 2
    refine List.map_congr_left fun x hx => ?_
    have hx' : ∀ k ∈ x.keys, ρ' k = ρ k := fun k hk => h k (List.mem_flatMap.2 ⟨x, hx, hk⟩)
    cases x with
    | c y => exact SC.den_congr hx'
    | a m =>
      simp only [TE.den]
      congr 2
      exact List.map_congr_left fun y hy => SC.den_congr fun k hk => hx' k (List.mem_flatMap.2 ⟨y, hy, hk⟩)
def keysB (n : Nat) (l : List Nat) : Bool := l.all fun k => Nat.blt k n
theorem keysB_h {n : Nat} {l : List Nat} (h : keysB n l = true) : ∀ k ∈ l, k < n := by
  intro k hk
  have := List.all_eq_true.1 h k hk
  rwa [Nat.blt_eq] at this
def tmOK (n : Nat) : List (Option SV) → Bool
  | [] => true
  | none :: l => tmOK n l
  | some v :: l => keysB n v.allKeys && tmOK n l
theorem tmOK_h {n : Nat} : ∀ {l : List (Option SV)}, tmOK n l = true → ∀ (i : Nat) v, l[i]? = some (some v) → ∀ k ∈ v.allKeys, k < n
  | [], _, i, v, h => by simp at h
  | none :: l, ho, i, v, h => by
    cases i with
    | zero => simp at h
    | succ i => exact tmOK_h (l := l) ho i v (by simpa using h)
  | some x :: l, ho, i, v, h => by
    simp only [tmOK, Bool.and_eq_true] at ho
    cases i with
    | zero => simp at h; subst h; exact keysB_h ho.1
    | succ i => exact tmOK_h ho.2 i v (by simpa using h)
def hpOK (n : Nat) : HL → Bool
  | [] => true
  | (k, b) :: l => Nat.blt k n && keysB n b.keys && hpOK n l
theorem hpOK_h {n : Nat} : ∀ {l : HL}, hpOK n l = true → ∀ k b, find k l = some b → k < n ∧ ∀ j ∈ b.keys, j < n
  | [], _, k, b, h => by simp [find] at h
  | (k', b') :: l, ho, k, b, h => by
    simp only [hpOK, Bool.and_eq_true, Nat.blt_eq] at ho
    rw [find_cons] at h
    split at h
    · rename_i e; cases h; subst e; exact ⟨ho.1.1, keysB_h ho.1.2⟩
    · exact hpOK_h ho.2 k b h
def stOK (s : St) : Bool := tmOK s.H.nxt s.tmps && hpOK s.H.nxt s.H.h

theorem CIs.shrink {n m : Nat → Prop} {ρ : Rho} {c : SC} {v : Value} (h : CIs n ρ c v) (hk : ∀ k ∈ c.keys, m k) : CIs m ρ c v := fun r ha => by
  rw [SC.den_congr (ρ := ρ) fun k hk' => ha k (hk k hk')]
  exact h ρ (.refl _ _)
theorem SIs.shrink {n m : Nat → Prop} {ρ : Rho} {c : SV} {v : Value} (h : SIs n ρ c v) (hk : ∀ k ∈ c.allKeys, m k) : SIs m ρ c v := fun r ha => by
  rw [SV.den_congr (ρ := ρ) fun k hk' => ha k (hk k hk')]
  exact h ρ (.refl _ _)
theorem Col.get_keys {c : Col} {i e : Nat} {x : SC} (h : c.get i e = some x) : ∀ k ∈ x.keys, k ∈ c.keys := by
  cases c with
  | ci k g => simp [Col.get] at h; subst h; intro k hk; simp [SC.keys] at hk
  | cb g => simp [Col.get] at h; subst h; intro k hk; simp [SC.keys] at hk
  | cs key sz len cap => simp [Col.get] at h; subst h; intro k hk; simpa [SC.keys, Col.keys] using hk
  | ck l =>
    simp only [Col.get] at h
    exact fun k hk => List.mem_flatMap.2 ⟨x, List.mem_of_getElem? h, hk⟩
  | cu => simp [Col.get] at h
theorem Blk.sat_shrink {n m : Nat → Prop} {ρ : Rho} {key : Nat} {w : World} {b : Blk} (h : b.sat n ρ key w) (hk : ∀ k ∈ b.keys, m k) : b.sat m ρ key w := by
  cases b with
  | own t size cs =>
    obtain ⟨y, arr, h1, h2, h3, h4, h5⟩ := h
    exact ⟨y, arr, h1, h2, h3, h4, fun i c hc => let ⟨v, hv, hi⟩ := h5 i c hc; ⟨v, hv, hi.shrink fun k hk' => hk k (List.mem_flatMap.2 ⟨some c, List.mem_of_getElem? hc, hk'⟩)⟩⟩
  | row t cap l cols =>
    rcases h with h | ⟨y, arr, h1, h2, h3, h4, h4', h5⟩
    · exact .inl h
    exact .inr ⟨y, arr, h1, h2, h3, h4, h4', fun e he f col c hf hc => let ⟨v, hv, hs⟩ := h5 e he f col c hf hc
      ⟨v, hv, hs.shrink fun k hk' => hk k (List.mem_flatMap.2 ⟨col, List.mem_of_getElem? hf, Col.get_keys hc k hk'⟩)⟩⟩
  | view l len cols =>
    intro i hi q hq
    obtain ⟨y, o, h1, h2⟩ := h i hi q hq
    exact ⟨y, o, h1, fun f col c hf hc => let ⟨v, hv, hs⟩ := h2 f col c hf hc
      ⟨v, hv, hs.shrink fun k hk' => hk k (List.mem_flatMap.2 ⟨col, List.mem_of_getElem? hf, Col.get_keys hc k hk'⟩)⟩⟩

/-- Names that nobody bears may be given again. -/
theorem Inv.reset {φ : Fr} {ρ : Rho} {s : St} {a : Act} {w : World} (h : Inv φ ρ s a w) {n : Nat} (hD : s.H.D = fun _ => True) (hk : stOK ⟨s.tmps, ⟨s.H.h, n, s.H.D⟩⟩ = true) : Inv φ ρ ⟨s.tmps, ⟨s.H.h, n, s.H.D⟩⟩ a w := by
  simp only [stOK, Bool.and_eq_true] at hk
  obtain ⟨k1, k2⟩ := hk
  have hsc : ∀ k, k < n → Hp.sc ⟨s.H.h, n, s.H.D⟩ k := fun k hk => ⟨hk, by rw [hD]; trivial⟩
  refine ⟨⟨h.heap.fr, fun k _ => by rw [hD]; trivial, fun k b hf => hsc k (hpOK_h k2 k b hf).1, fun k b hf => Blk.sat_shrink (h.heap.sat k b hf) fun j hj => hsc j ((hpOK_h k2 k b hf).2 j hj), h.heap.bd, h.heap.may, h.heap.sep⟩, h.defers, h.size, ?_⟩
  intro k sv hk
  obtain ⟨v, hv, hs⟩ := h.tmps k sv hk
  exact ⟨v, hv, hs.shrink fun j hj => hsc j (tmOK_h k1 k sv hk j hj)⟩

/-- From a state to one that says no more, and names no name beyond its own. -/
def goSt (s t : St) : Prop := s.H.D = (fun _ => True) ∧ t.H.D = (fun _ => True) ∧ leTm s.tmps t.tmps ∧ leHL s.H.h t.H.h
theorem Inv.go {φ : Fr} {ρ : Rho} {s t : St} {a : Act} {w : World} (h : Inv φ ρ s a w) (hl : goSt s t) (hk : stOK t = true) : Inv φ ρ t a w := by
  obtain ⟨hs, ht, h1, h2⟩ := hl
  have g : Inv φ ρ ⟨t.tmps, ⟨t.H.h, max s.H.nxt t.H.nxt, t.H.D⟩⟩ a w := h.le ⟨by rw [hs, ht], Nat.le_max_left _ _, h1, h2⟩
  exact g.reset (n := t.H.nxt) ht hk

def RoundEnd {X : Type} (J : X → St) (I : X → Prop) (μ : X → Nat) (n : Nat) (K : Ex × St → Prop) (x : X) (r : Ex × St) : Prop :=
  match r.1 with
  | .normal => ∃ x', I x' ∧ μ x' < μ x ∧ goSt r.2 (J x')
  | e => ∃ t, goSt r.2 t ∧ stOK t = true ∧ n ≤ t.H.nxt ∧ K (e, t)

theorem loop_ok {P : Program} {callT : CallT} (hc : CallOK P callT) {S u : Nat} {c : Code} {ann : Ann} (hann : AnnOK P c ann) {X : Type} (J : X → St) (I : X → Prop) (μ : X → Nat) (n : Nat) (hn : ∀ x, (J x).H.nxt = n) (hD : ∀ x, (J x).H.D = fun _ => True)
    (hJ : ∀ x, stOK (J x) = true) (x0 : X) (A : Out (Ex × St)) (round : ∀ x, I x → ∀ K, A.holds K → (execC P callT S u c ann (J x)).holds (RoundEnd J I μ n K x)) :
    LoopOK P c (fun s => .need (I x0 ∧ leSt s (J x0)) A) := by
  intro φ ρ s a w K Q h hh hQ
  obtain ⟨⟨hx0, hle⟩, hA⟩ := hh
  have h0 := h.le hle
  have hsc : ∀ k, s.H.sc k → (J x0).H.sc k := fun k hk => ⟨Nat.lt_of_lt_of_le hk.1 hle.2.1, by rw [hD]; trivial⟩
  have hsn : ∀ x y k, (J x).H.sc k → (J y).H.sc k := fun x y k hk => ⟨by rw [hn]; rw [← hn x]; exact hk.1, by rw [hD]; trivial⟩
  refine wp_loop_ghost (fun m a w => ∃ x ρ', μ x = m ∧ I x ∧ Agree (J x0).H.sc ρ ρ' ∧ Inv φ ρ' (J x) a w) (μ x0) ⟨x0, ρ, rfl, hx0, .refl _ _, h0⟩ ?_
  rintro m a w ⟨x, ρ', rfl, hx, hag, hI⟩
  refine execC_ok hc c ann hann hI (round x hx K hA) ?_
  intro e s' ρ2 a2 w2 hr h1 h2 h3
  have hag2 : Agree (J x0).H.sc ρ ρ2 := hag.trans (h1.mono (hsn x0 x))
  have exits : ∀ e : Ex, (∃ t, goSt s' t ∧ stOK t = true ∧ n ≤ t.H.nxt ∧ K (e, t)) → Q e.to a2 w2 := by
    rintro e ⟨t, g1, g2, g3, g4⟩
    refine hQ e t ρ2 a2 w2 g4 (hag2.mono hsc) ⟨Nat.le_trans hle.2.1 (by rw [hn]; exact g3), ?_⟩ (h3.go g1 g2)
    rw [g1.2.1, hle.1, hD]
  cases e with
  | normal =>
    obtain ⟨x', g1, g2, g3⟩ := hr
    exact ⟨μ x', g2, x', ρ2, rfl, g1, hag2, h3.go g3 (hJ x')⟩
  | exit i => exact exits (.exit i) hr
  | ret => exact exits .ret hr
end Go.Proofs.Ytjpnpaboahbncaa.Sx
