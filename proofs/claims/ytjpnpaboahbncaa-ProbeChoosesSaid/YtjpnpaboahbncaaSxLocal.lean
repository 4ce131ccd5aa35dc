/- Contracts that speak of some blocks alone, under names of their own: used where more lies about, under other names. Weaker states. -/
import Derived.Test.YtjpnpaboahbncaaSxExec
set_option linter.unusedVariables false
set_option linter.unusedSimpArgs false
namespace Go.Proofs.Ytjpnpaboahbncaa.Sx
open Go Go.RowKit

/-! ### Other names -/
def SC.ren (σ : Nat → Nat) : SC → SC
  | .ptr key i e f sz => .ptr (σ key) i e f sz
  | .slc key i e sz len cap => .slc (σ key) i e sz len cap
  | .ifc t key i e f sz => .ifc t (σ key) i e f sz
  | .fn f caps => .fn f (caps.map σ)
  | x => x
theorem SC.ren_den (σ : Nat → Nat) (ρ : Rho) (c : SC) : (c.ren σ).den ρ = c.den (fun k => ρ (σ k)) := by
  cases c <;> simp [SC.ren, SC.den, place]
def TE.ren (σ : Nat → Nat) : TE → TE
  | .c x => .c (x.ren σ)
  | .a l => .a (l.map (SC.ren σ))
theorem TE.ren_den (σ : Nat → Nat) (ρ : Rho) (c : TE) : (c.ren σ).den ρ = c.den (fun k => ρ (σ k)) := by
  cases c with
  | c x => exact x.ren_den σ ρ
  | a l =>
    simp only [TE.ren, TE.den, List.map_map]
    congr 2
    exact List.map_congr_left fun x _ => x.ren_den σ ρ
def SV.ren (σ : Nat → Nat) : SV → SV
  | .c x => .c (x.ren σ)
  | .a l => .a (l.map (SC.ren σ))
  | .t l => .t (l.map (TE.ren σ))
theorem SV.ren_den (σ : Nat → Nat) (ρ : Rho) (c : SV) : (c.ren σ).den ρ = c.den (fun k => ρ (σ k)) := by
  cases c with
  | c x => exact x.ren_den σ ρ
  | a l =>
    simp only [SV.ren, SV.den, List.map_map]
    congr 2
    exact List.map_congr_left fun x _ => x.ren_den σ ρ
  | t l =>
    simp only [SV.ren, SV.den, List.map_map]
    congr 2
    exact List.map_congr_left fun x _ => x.ren_den σ ρ
def Col.ren (σ : Nat → Nat) : Col → Col
  | .cs key sz ix len cap => .cs (σ key) sz ix len cap
  | .cp key ix f sz => .cp (σ key) ix f sz
  | .cf t key ix f sz => .cf t (σ key) ix f sz
  | .ck l => .ck (l.map (SC.ren σ))
  | .cc c => .cc (c.ren σ)
  | .ov i e c col => .ov i e (c.ren σ) (col.ren σ)
  | .ci k g => .ci k g
  | .cb g => .cb g
  | .cu => .cu
theorem Col.ren_get (σ : Nat → Nat) (i e : Nat) (c : Col) : (c.ren σ).get i e = (c.get i e).map (SC.ren σ) := by
  induction c with
  | ov i0 e0 c col ih => simp only [Col.ren, Col.get, ih]; split <;> rfl
  | _ => simp [Col.ren, Col.get, SC.ren]
def Blk.ren (σ : Nat → Nat) : Blk → Blk
  | .own t size cs => .own t size (cs.map (Option.map (SC.ren σ)))
  | .row t cap n cols => .row t cap n (cols.map (Col.ren σ))
  | .view m n cols => .view m n (cols.map (Col.ren σ))
  | .fam rw t cap n cols => .fam rw t cap n (cols.map (Col.ren σ))
theorem Blk.ren_isRow (σ : Nat → Nat) (b : Blk) : (b.ren σ).isRow = b.isRow := by cases b <;> rfl
theorem Blk.ren_live (σ : Nat → Nat) (b : Blk) (i : Nat) : (b.ren σ).live i = b.live i := by cases b <;> rfl

section
variable {n m : Nat → Prop} {ρ0 ρ : Rho} {σ : Nat → Nat}
theorem CIs.ren {c : SC} {v : Value} (hm : ∀ k, n k → m (σ k)) (hr : ∀ k, n k → ρ (σ k) = ρ0 k) (h : CIs n ρ0 c v) : CIs m ρ (c.ren σ) v := fun ρ'' ha => by
  rw [SC.ren_den]
  exact h _ fun k hk => by rw [← hr k hk]; exact ha (σ k) (hm k hk)
theorem SIs.ren {c : SV} {v : Value} (hm : ∀ k, n k → m (σ k)) (hr : ∀ k, n k → ρ (σ k) = ρ0 k) (h : SIs n ρ0 c v) : SIs m ρ (c.ren σ) v := fun ρ'' ha => by
  rw [SV.ren_den]
  exact h _ fun k hk => by rw [← hr k hk]; exact ha (σ k) (hm k hk)
def Back (n m : Nat → Prop) (ρ0 ρ : Rho) (σ : Nat → Nat) : Prop := ∀ r, Agree n ρ0 r → ∃ ρ'', Agree m ρ ρ'' ∧ ∀ k, ρ'' (σ k) = r k
theorem CIs.unren {c : SC} {v : Value} (hb : Back n m ρ0 ρ σ) (h : CIs m ρ (c.ren σ) v) : CIs n ρ0 c v := fun r ha => by
  obtain ⟨ρ'', h1, h2⟩ := hb r ha
  have := h ρ'' h1
  rw [SC.ren_den] at this
  rw [← this]; congr 1; funext k; exact (h2 k).symm
theorem SIs.unren {c : SV} {v : Value} (hb : Back n m ρ0 ρ σ) (h : SIs m ρ (c.ren σ) v) : SIs n ρ0 c v := fun r ha => by
  obtain ⟨ρ'', h1, h2⟩ := hb r ha
  have := h ρ'' h1
  rw [SV.ren_den] at this
  rw [← this]; congr 1; funext k; exact (h2 k).symm
theorem VIs.unren (hb : Back n m ρ0 ρ σ) : ∀ {l : List SV} {vs : List Value}, VIs m ρ (l.map (SV.ren σ)) vs → VIs n ρ0 l vs
  | [], [], _ => trivial
  | [], v :: vs, h => h.elim
  | x :: l, [], h => h.elim
  | x :: l, v :: vs, h => ⟨h.1.unren hb, VIs.unren hb h.2⟩

theorem Blk.sat_map {n m : Nat → Prop} {ρ0 ρ : Rho} {b b' : Blk} {k z : Nat} {w : World} (hk : ρ0 k = ρ z) (f : SC → SC) (hown : ∀ t size cs, b = .own t size cs → b' = .own t size (cs.map (Option.map f)))
    (hrow : ∀ t cap l cols, b = .row t cap l cols → ∃ g : Col → Col, (∀ c i e, (g c).get i e = (c.get i e).map f) ∧ b' = .row t cap l (cols.map g))
    (hview : ∀ l len cols, b = .view l len cols → ∃ g : Col → Col, (∀ c i e, (g c).get i e = (c.get i e).map f) ∧ b' = .view l len (cols.map g))
    (hfam : ∀ rw t cap len cols, b = .fam rw t cap len cols → ∃ g : Col → Col, (∀ c i e, (g c).get i e = (c.get i e).map f) ∧ b' = .fam rw t cap len (cols.map g))
    (hc : ∀ c v, CIs n ρ0 c v → CIs m ρ (f c) v) (h : b.sat n ρ0 k w) : b'.sat m ρ z w := by
  cases b with
  | own t size cs =>
    rw [hown _ _ _ rfl]
    obtain ⟨y, arr, h1, h2, h3, h4, h5⟩ := h
    refine ⟨y, arr, by rw [← hk]; exact h1, h2, h3, by simpa using h4, fun i c hi => ?_⟩
    simp only [List.getElem?_map, Option.map_eq_some_iff] at hi
    obtain ⟨oc, ho, hc'⟩ := hi
    cases oc with
    | none => simp at hc'
    | some d =>
      simp at hc'; subst hc'
      obtain ⟨v, hv, hs⟩ := h5 i d ho
      exact ⟨v, hv, hc _ _ hs⟩
  | row t cap l cols =>
    obtain ⟨g, hg, e⟩ := hrow _ _ _ _ rfl
    rw [e]
    rcases h with h | ⟨y, arr, h1, h2, h3, h4, h4', h5⟩
    · exact .inl h
    refine .inr ⟨y, arr, by rw [← hk]; exact h1, h2, by simpa using h3, h4, h4', fun q hq f' col c hf hcol => ?_⟩
    simp only [List.getElem?_map, Option.map_eq_some_iff] at hf
    obtain ⟨col0, hf0, rfl⟩ := hf
    rw [hg, Option.map_eq_some_iff] at hcol
    obtain ⟨c0, hc0, rfl⟩ := hcol
    obtain ⟨v, hv, hs⟩ := h5 q hq f' col0 c0 hf0 hc0
    exact ⟨v, by simpa using hv, hc _ _ hs⟩
  | view l len cols =>
    obtain ⟨g, hg, e⟩ := hview _ _ _ rfl
    rw [e]
    intro i hi q hq
    obtain ⟨y, o, h1, h2⟩ := h i hi q hq
    refine ⟨y, o, by rw [← hk]; exact h1, fun f' col c hf hcol => ?_⟩
    simp only [List.getElem?_map, Option.map_eq_some_iff] at hf
    obtain ⟨col0, hf0, rfl⟩ := hf
    rw [hg, Option.map_eq_some_iff] at hcol
    obtain ⟨c0, hc0, rfl⟩ := hcol
    obtain ⟨v, hv, hs⟩ := h2 f' col0 c0 hf0 hc0
    exact ⟨v, by simpa using hv, hc _ _ hs⟩
  | fam rw t cap len cols =>
    obtain ⟨g, hg, e⟩ := hfam _ _ _ _ _ rfl
    rw [e]
    obtain ⟨h1, h2, h3⟩ := h
    refine ⟨h1, by rw [← hk]; exact h2, fun i hi => ?_⟩
    obtain ⟨y, arr, g1, g2, g3, g4⟩ := h3 i hi
    refine ⟨y, arr, by rw [← hk]; exact g1, g2, by simpa using g3, fun q hq f' col c hf hcol => ?_⟩
    simp only [List.getElem?_map, Option.map_eq_some_iff] at hf
    obtain ⟨col0, hf0, rfl⟩ := hf
    rw [hg, Option.map_eq_some_iff] at hcol
    obtain ⟨c0, hc0, rfl⟩ := hcol
    obtain ⟨v, hv, hs⟩ := g4 q hq f' col0 c0 hf0 hc0
    exact ⟨v, by simpa using hv, hc _ _ hs⟩
theorem Blk.sat_ren {b : Blk} {k : Nat} {w : World} (hk : ρ0 k = ρ (σ k)) (hm : ∀ k, n k → m (σ k)) (hr : ∀ k, n k → ρ (σ k) = ρ0 k) (h : b.sat n ρ0 k w) : (b.ren σ).sat m ρ (σ k) w :=
  Blk.sat_map (b' := b.ren σ) hk (SC.ren σ) (fun _ _ _ e => by subst e; rfl) (fun _ _ _ _ e => by subst e; exact ⟨Col.ren σ, fun c i e => Col.ren_get σ i e c, rfl⟩) (fun _ _ _ e => by subst e; exact ⟨Col.ren σ, fun c i e => Col.ren_get σ i e c, rfl⟩) (fun _ _ _ _ _ e => by subst e; exact ⟨Col.ren σ, fun c i e => Col.ren_get σ i e c, rfl⟩) (fun c v hc => hc.ren hm hr) h
theorem Blk.sat_unren {b : Blk} {k : Nat} {w : World} (hk : ρ0 k = ρ (σ k)) (hb : Back n m ρ0 ρ σ) (h : (b.ren σ).sat m ρ (σ k) w) : b.sat n ρ0 k w := by
  cases b with
  | own t size cs =>
    obtain ⟨y, arr, h1, h2, h3, h4, h5⟩ := h
    refine ⟨y, arr, by rw [hk]; exact h1, h2, h3, by simpa using h4, fun i c hi => ?_⟩
    obtain ⟨v, hv, hs⟩ := h5 i (c.ren σ) (by simp [hi])
    exact ⟨v, hv, hs.unren hb⟩
  | row t cap l cols =>
    rcases h with h | ⟨y, arr, h1, h2, h3, h4, h4', h5⟩
    · exact .inl h
    refine .inr ⟨y, arr, by rw [hk]; exact h1, h2, by simpa using h3, h4, h4', fun q hq f' col c hf hcol => ?_⟩
    obtain ⟨v, hv, hs⟩ := h5 q hq f' (col.ren σ) (c.ren σ) (by simp [hf]) (by rw [Col.ren_get, hcol]; rfl)
    exact ⟨v, by simpa using hv, hs.unren hb⟩
  | view l len cols =>
    intro i hi q hq
    obtain ⟨y, o, h1, h2⟩ := h i hi q hq
    refine ⟨y, o, by rw [hk]; exact h1, fun f' col c hf hcol => ?_⟩
    obtain ⟨v, hv, hs⟩ := h2 f' (col.ren σ) (c.ren σ) (by simp [hf]) (by rw [Col.ren_get, hcol]; rfl)
    exact ⟨v, by simpa using hv, hs.unren hb⟩
  | fam rw t cap len cols =>
    obtain ⟨h1, h2, h3⟩ := h
    refine ⟨h1, by rw [hk]; exact h2, fun i hi => ?_⟩
    obtain ⟨y, arr, g1, g2, g3, g4⟩ := h3 i hi
    refine ⟨y, arr, by rw [hk]; exact g1, g2, by simpa using g3, fun q hq f' col c hf hcol => ?_⟩
    obtain ⟨v, hv, hs⟩ := g4 q hq f' (col.ren σ) (c.ren σ) (by simp [hf]) (by rw [Col.ren_get, hcol]; rfl)
    exact ⟨v, by simpa using hv, hs.unren hb⟩
end

/-! ### Weaker descriptions: the second says no more than the first -/
def leSC : SC → SC → Prop
  | .kb b, .kb b' | .kb b, .bv b' | .bv b, .kb b' | .bv b, .bv b' => b = b'
  | .ki k n, .ki k' n' | .ki k n, .iv k' n' | .iv k n, .ki k' n' | .iv k n, .iv k' n' => k = k' ∧ n = n'
  | .nilp, .nilp => True
  | .ptr key i e f sz, .ptr key' i' e' f' sz' => key = key' ∧ i.v = i'.v ∧ e.v = e'.v ∧ f = f' ∧ sz = sz'
  | .nils, .nils => True
  | .slc key i e sz len cap, .slc key' i' e' sz' len' cap' => key = key' ∧ i.v = i'.v ∧ e.v = e'.v ∧ sz = sz' ∧ len.v = len'.v ∧ cap.v = cap'.v
  | .nilI, .nilI => True
  | .ifc t key i e f sz, .ifc t' key' i' e' f' sz' => t = t' ∧ key = key' ∧ i.v = i'.v ∧ e.v = e'.v ∧ f = f' ∧ sz = sz'
  | .fn f caps, .fn f' caps' => f = f' ∧ caps = caps'
  | .nilF, .nilF => True
  | .val v, .val v' => v = v'
  | _, _ => False
theorem leSC_den {x y : SC} (h : leSC x y) (ρ : Rho) : x.den ρ = y.den ρ := by
  cases x <;> cases y <;> simp_all [leSC, SC.den, place]
def leL : List SC → List SC → Prop
  | [], [] => True
  | x :: l, y :: m => leSC x y ∧ leL l m
  | _, _ => False
theorem leL_den {ρ : Rho} : ∀ {x y : List SC}, leL x y → x.map (SC.den ρ) = y.map (SC.den ρ)
  | [], [], _ => rfl
  | [], y :: m, h => h.elim
  | x :: l, [], h => h.elim
  | x :: l, y :: m, h => by rw [List.map_cons, List.map_cons, leSC_den h.1, leL_den h.2]
def leTE : TE → TE → Prop
  | .c x, .c y => leSC x y
  | .a l, .a m => leL l m
  | _, _ => False
theorem leTE_den {x y : TE} (h : leTE x y) (ρ : Rho) : x.den ρ = y.den ρ := by
  cases x <;> cases y <;> try exact h.elim
  · exact leSC_den h ρ
  · simp only [TE.den, leL_den (ρ := ρ) h]
def leTs : List TE → List TE → Prop
  | [], [] => True
  | x :: l, y :: m => leTE x y ∧ leTs l m
  | _, _ => False
theorem leTs_den {ρ : Rho} : ∀ {x y : List TE}, leTs x y → x.map (TE.den ρ) = y.map (TE.den ρ)
  | [], [], _ => rfl
  | [], y :: m, h => h.elim
  | x :: l, [], h => h.elim
  | x :: l, y :: m, h => by rw [List.map_cons, List.map_cons, leTE_den h.1, leTs_den h.2]
def leSV : SV → SV → Prop
  | .c x, .c y => leSC x y
  | .a l, .a m => leL l m
  | .t l, .t m => leTs l m
  | _, _ => False
theorem leSV_den {x y : SV} (h : leSV x y) (ρ : Rho) : x.den ρ = y.den ρ := by
  cases x <;> cases y <;> try exact h.elim
  · exact leSC_den h ρ
  · simp only [SV.den, leL_den h]
  · simp only [SV.den, leTs_den (ρ := ρ) h]
theorem SIs.le {n : Nat → Prop} {ρ : Rho} {x y : SV} {v : Value} (h : SIs n ρ x v) (hl : leSV x y) : SIs n ρ y v := fun r ha => by rw [← leSV_den hl]; exact h r ha
theorem CIs.le {n : Nat → Prop} {ρ : Rho} {x y : SC} {v : Value} (h : CIs n ρ x v) (hl : leSC x y) : CIs n ρ y v := fun r ha => by rw [← leSC_den hl]; exact h r ha
def leVs : List SV → List SV → Prop
  | [], [] => True
  | x :: l, y :: m => leSV x y ∧ leVs l m
  | _, _ => False
theorem VIs.le {n : Nat → Prop} {ρ : Rho} : ∀ {l m : List SV} {vs : List Value}, VIs n ρ l vs → leVs l m → VIs n ρ m vs
  | [], [], _, h, _ => h
  | [], y :: m, _, _, h => h.elim
  | x :: l, [], _, _, h => h.elim
  | x :: l, y :: m, [], h, _ => h.elim
  | x :: l, y :: m, v :: vs, h, g => ⟨h.1.le g.1, VIs.le h.2 g.2⟩
def leOL : List (Option SC) → List (Option SC) → Prop
  | _, [] => True
  | _ :: l, none :: m => leOL l m
  | some x :: l, some y :: m => leSC x y ∧ leOL l m
  | _, _ => False
theorem leOL_at : ∀ {l m : List (Option SC)}, leOL l m → m.length ≤ l.length ∧ ∀ (i : Nat) y, m[i]? = some (some y) → ∃ x, l[i]? = some (some x) ∧ leSC x y
  | l, [], _ => ⟨Nat.zero_le _, fun i y h => by simp at h⟩
  | [], y :: m, h => by cases y <;> exact h.elim
  | x :: l, none :: m, h => by
    have h' : leOL l m := by cases x <;> exact h
    obtain ⟨h1, h2⟩ := leOL_at h'
    refine ⟨by simpa using h1, fun i y hy => ?_⟩
    cases i with
    | zero => simp at hy
    | succ i => exact h2 i y (by simpa using hy)
  | none :: l, some y :: m, h => h.elim
  | some x :: l, some y :: m, h => by
    obtain ⟨h1, h2⟩ := leOL_at h.2
    refine ⟨by simpa using h1, fun i z hz => ?_⟩
    cases i with
    | zero => simp at hz; subst hz; exact ⟨x, rfl, h.1⟩
    | succ i => exact h2 i z (by simpa using hz)
def leCk (I : Nat → Nat → Prop) (k : IntKind) (g : Nat → Nat → Int) : Nat → List SC → Prop
  | _, [] => True
  | j, c :: l => (∀ i, I i j → leSC c (.iv k (g i j))) ∧ leCk I k g (j + 1) l
theorem leCk_at {I : Nat → Nat → Prop} {k : IntKind} {g : Nat → Nat → Int} : ∀ {l : List SC} {j : Nat}, leCk I k g j l → ∀ e, e < l.length → ∃ c, l[e]? = some c ∧ ∀ i, I i (j + e) → leSC c (.iv k (g i (j + e)))
  | [], j, _, e, h => by simp at h
  | c :: l, j, h, 0, _ => ⟨c, rfl, h.1⟩
  | c :: l, j, h, e + 1, he => by
    obtain ⟨d, h1, h2⟩ := leCk_at h.2 e (by simpa using he)
    exact ⟨d, by simpa using h1, fun i hi => by have := h2 i (by rw [show j + 1 + e = j + (e + 1) by omega]; exact hi); rwa [show j + 1 + e = j + (e + 1) by omega] at this⟩
/-- 'I': the elements that matter (an instance, a place in it). -/
def leCol (I : Nat → Nat → Prop) : Col → Col → Prop
  | _, .cu => True
  | .ci k g, .ci k' g' => k = k' ∧ ∀ i e, I i e → g i e = g' i e
  | .cb g, .cb g' => ∀ i e, I i e → g i e = g' i e
  | .cs key sz ix len cap, .cs key' sz' ix' len' cap' => key = key' ∧ sz = sz' ∧ (∀ i e, I i e → ix i e = ix' i e) ∧ (∀ i e, I i e → len i e = len' i e) ∧ ∀ i e, I i e → cap i e = cap' i e
  | .cp key ix f sz, .cp key' ix' f' sz' => key = key' ∧ f = f' ∧ sz = sz' ∧ ∀ i e, I i e → ix i e = ix' i e
  | .cf t key ix f sz, .cf t' key' ix' f' sz' => t = t' ∧ key = key' ∧ f = f' ∧ sz = sz' ∧ ∀ i e, I i e → ix i e = ix' i e
  | .ck l, .ck m => leL l m
  | .ck l, .ci k g => (∀ i e, I i e → e < l.length) ∧ leCk I k g 0 l
  | .cc c, .cc d => leSC c d
  | .ov i e c col, .ov i' e' c' col' => i.v = i'.v ∧ e.v = e'.v ∧ leSC c c' ∧ leCol I col col'
  | _, _ => False
theorem leL_at : ∀ {x y : List SC}, leL x y → ∀ (i : Nat) b, y[i]? = some b → ∃ a, x[i]? = some a ∧ leSC a b
  | [], [], _, i, b, h => by simp at h
  | [], y :: m, h, _, _, _ => h.elim
  | x :: l, [], h, _, _, _ => h.elim
  | x :: l, y :: m, h, i, b, hb => by
    cases i with
    | zero => simp at hb; subst hb; exact ⟨x, rfl, h.1⟩
    | succ i => exact leL_at h.2 i b (by simpa using hb)
theorem leCol_get {I : Nat → Nat → Prop} : ∀ {c d : Col}, leCol I c d → ∀ {i e : Nat}, I i e → ∀ {y : SC}, d.get i e = some y → ∃ x, c.get i e = some x ∧ leSC x y := by
  intro c d
  induction d generalizing c with
  | cu => intro h i e he y hy; simp [Col.get] at hy
  | ci k g =>
    intro h i e he y hy
    simp [Col.get] at hy; subst hy
    cases c <;> try exact h.elim
    · exact ⟨_, rfl, h.1, h.2 i e he⟩
    · obtain ⟨c, hc, hle⟩ := leCk_at h.2 e (h.1 i e he)
      rw [Nat.zero_add] at hle
      exact ⟨c, hc, hle i he⟩
  | cb g =>
    intro h i e he y hy
    cases c <;> try exact h.elim
    simp [Col.get] at hy; subst hy
    exact ⟨_, rfl, h i e he⟩
  | cs key sz ix len cap =>
    intro h i e he y hy
    cases c <;> try exact h.elim
    simp [Col.get] at hy; subst hy
    exact ⟨_, rfl, h.1, h.2.2.1 i e he, rfl, h.2.1, h.2.2.2.1 i e he, h.2.2.2.2 i e he⟩
  | cp key ix f sz =>
    intro h i e he y hy
    cases c <;> try exact h.elim
    simp [Col.get] at hy; subst hy
    exact ⟨_, rfl, h.1, h.2.2.2 i e he, rfl, h.2.1, h.2.2.1⟩
  | cf t key ix f sz =>
    intro h i e he y hy
    cases c <;> try exact h.elim
    simp [Col.get] at hy; subst hy
    exact ⟨_, rfl, h.1, h.2.1, h.2.2.2.2 i e he, rfl, h.2.2.1, h.2.2.2.1⟩
  | ck m =>
    intro h i e he y hy
    cases c <;> try exact h.elim
    simp only [Col.get] at hy ⊢
    exact leL_at h e y hy
  | cc d =>
    intro h i e he y hy
    cases c <;> try exact h.elim
    simp [Col.get] at hy; subst hy
    exact ⟨_, rfl, h⟩
  | ov i0 e0 d col ih =>
    intro h i e he y hy
    cases c <;> try exact h.elim
    obtain ⟨h1, h2, h3, h4⟩ := h
    simp only [Col.get, h1, h2] at hy ⊢
    split at hy
    · rename_i hc
      cases hy
      exact ⟨_, by rw [if_pos hc], h3⟩
    · rename_i hc
      rw [if_neg hc]
      exact ih h4 he hy
def leCols (I : Nat → Nat → Prop) : List Col → List Col → Prop
  | [], [] => True
  | x :: l, y :: m => leCol I x y ∧ leCols I l m
  | _, _ => False
theorem leCols_at {I : Nat → Nat → Prop} : ∀ {x y : List Col}, leCols I x y → x.length = y.length ∧ ∀ (i : Nat) b, y[i]? = some b → ∃ a, x[i]? = some a ∧ leCol I a b
  | [], [], _ => ⟨rfl, fun i b h => by simp at h⟩
  | [], y :: m, h => h.elim
  | x :: l, [], h => h.elim
  | x :: l, y :: m, h => by
    obtain ⟨h1, h2⟩ := leCols_at h.2
    refine ⟨by simp [h1], fun i b hb => ?_⟩
    cases i with
    | zero => simp at hb; subst hb; exact ⟨x, rfl, h.1⟩
    | succ i => exact h2 i b (by simpa using hb)
def leBlk : Blk → Blk → Prop
  | .own t size cs, .own t' size' cs' => t = t' ∧ size = size' ∧ leOL cs cs'
  | .row t cap n cols, .row t' cap' n' cols' => t = t' ∧ cap = cap' ∧ n' ≤ n ∧ leCols (fun i e => i = 0 ∧ e < n') cols cols'
  | .view m n cols, .view m' n' cols' => m' ≤ m ∧ (∀ i, i < m' → n' i ≤ n i) ∧ leCols (fun i e => i < m' ∧ e < n' i) cols cols'
  | .fam rw t cap n cols, .fam rw' t' cap' n' cols' => (rw = false → rw' = false) ∧ t = t' ∧ (∀ i, cap i = cap' i ∨ cap' i = 0) ∧ (∀ i, n' i ≤ cap' i ∧ n' i ≤ n i) ∧ leCols (fun i e => e < n' i) cols cols'
  | .row t cap n cols, .view m' n' cols' => m' ≤ 1 ∧ (n' 0 ≤ n ∧ n' 0 ≤ cap) ∧ leCols (fun i e => i = 0 ∧ e < n' 0) cols cols'
  | .fam rw t cap n cols, .view m' n' cols' => (∀ i, i < m' → n' i ≤ n i ∧ n' i ≤ cap i) ∧ leCols (fun i e => i < m' ∧ e < n' i) cols cols'
  | _, _ => False
theorem leBlk_row {b b' : Blk} (h : leBlk b b') : b'.isRow = true → b.isRow = true := by
  cases b <;> cases b' <;> first | exact fun _ => rfl | exact h.elim | (intro h'; exact h') | (intro h'; cases h'; done) | skip
  intro h'
  rename_i rw t cap n cols rw' t' cap' n' cols'
  have h' : rw' = true := h'
  show rw = true
  cases rw with
  | true => rfl
  | false => have := h.1 rfl; rw [this] at h'; cases h'
theorem leBlk_live {b b' : Blk} (h : leBlk b b') {i : Nat} (hi : b'.live i) : b.live i := by
  cases b <;> cases b' <;> first | exact h.elim | skip
  · exact hi
  · exact ⟨hi.1, by have h2 := hi.2; have := h.2.1; show 0 < _; omega⟩
  · have h1 := h.1; have h2 := h.2.1.2; have h3 := hi.1; have h4 := hi.2
    have : i = 0 := by omega
    subst this
    exact ⟨rfl, by show 0 < _; omega⟩
  · have h1 := h.1; have h2 := h.2.1 i hi.1; exact ⟨Nat.lt_of_lt_of_le hi.1 h1, Nat.lt_of_lt_of_le hi.2 h2⟩
  · have h1 := (h.1 i hi.1).2; have h2 := hi.2; show 0 < _; omega
  · rename_i rw t cap n cols rw' t' cap' n' cols'
    have hi : 0 < cap' i := hi
    show 0 < cap i
    rcases h.2.2.1 i with h1 | h1 <;> omega
theorem Blk.sat_le {n : Nat → Prop} {ρ : Rho} {k : Nat} {w : World} {b b' : Blk} (hl : leBlk b b') (h : b.sat n ρ k w) : b'.sat n ρ k w := by
  cases b <;> cases b' <;> try exact hl.elim
  · obtain ⟨rfl, rfl, hl⟩ := hl
    obtain ⟨y, arr, h1, h2, h3, h4, h5⟩ := h
    obtain ⟨g1, g2⟩ := leOL_at hl
    refine ⟨y, arr, h1, h2, h3, by omega, fun i c hi => ?_⟩
    obtain ⟨x, hx, hle⟩ := g2 i c hi
    obtain ⟨v, hv, hs⟩ := h5 i x hx
    exact ⟨v, hv, hs.le hle⟩
  · obtain ⟨rfl, rfl, hn, hl⟩ := hl
    obtain ⟨g1, g2⟩ := leCols_at hl
    rcases h with h | ⟨y, arr, h1, h2, h3, h4, h4', h5⟩
    · exact .inl ⟨by omega, h.2⟩
    refine .inr ⟨y, arr, h1, h2, by rw [← g1]; exact h3, by omega, h4', fun e he f col c hf hc => ?_⟩
    obtain ⟨x, hx, hle⟩ := g2 f col hf
    obtain ⟨d, hd, hle'⟩ := leCol_get hle ⟨rfl, he⟩ hc
    obtain ⟨v, hv, hs⟩ := h5 e (by omega) f x d hx hd
    exact ⟨v, by rw [← g1]; exact hv, hs.le hle'⟩
  · obtain ⟨hm, hn, hl⟩ := hl
    obtain ⟨g1, g2⟩ := leCols_at hl
    intro i hi q hq
    have : i = 0 := by omega
    subst this
    rcases h with h | ⟨y, arr, h1, h2, h3, h4, h4', h5⟩
    · omega
    refine ⟨y, 0, h1, fun f col c hf hc => ?_⟩
    obtain ⟨x, hx, hle⟩ := g2 f col hf
    obtain ⟨d, hd, hle'⟩ := leCol_get hle ⟨rfl, hq⟩ hc
    obtain ⟨v, hv, hs⟩ := h5 q (by omega) f x d hx hd
    exact ⟨v, by rw [cell_of_row w y _ arr _ _ h2, Nat.zero_add, ← g1]; exact hv, hs.le hle'⟩
  · obtain ⟨hm, hn, hl⟩ := hl
    obtain ⟨g1, g2⟩ := leCols_at hl
    intro i hi q hq
    obtain ⟨y, o, h1, h2⟩ := h i (by omega) q (by have := hn i hi; omega)
    refine ⟨y, o, h1, fun f col c hf hc => ?_⟩
    obtain ⟨x, hx, hle⟩ := g2 f col hf
    obtain ⟨d, hd, hle'⟩ := leCol_get hle ⟨hi, hq⟩ hc
    obtain ⟨v, hv, hs⟩ := h2 f x d hx hd
    exact ⟨v, by rw [← g1]; exact hv, hs.le hle'⟩
  · obtain ⟨hn, hl⟩ := hl
    obtain ⟨g1, g2⟩ := leCols_at hl
    obtain ⟨_, _, h3⟩ := h
    intro i hi q hq
    obtain ⟨y, arr, k1, k2, k3, k4⟩ := h3 i (by have := (hn i hi).2; omega)
    refine ⟨y, 0, k1, fun f col c hf hc => ?_⟩
    obtain ⟨x, hx, hle⟩ := g2 f col hf
    obtain ⟨d, hd, hle'⟩ := leCol_get hle ⟨hi, hq⟩ hc
    obtain ⟨v, hv, hs⟩ := k4 q (by have := (hn i hi).1; omega) f x d hx hd
    exact ⟨v, by rw [cell_of_row w y _ arr _ _ k2, Nat.zero_add, ← g1]; exact hv, hs.le hle'⟩
  · rename_i rw t cap n0 cols rw' t' cap' n0' cols'
    obtain ⟨hrw, rfl, hcap, hn, hl⟩ := hl
    obtain ⟨g1, g2⟩ := leCols_at hl
    obtain ⟨h1, h2, h3⟩ := h
    have lv : ∀ i, 0 < cap' i → 0 < cap i ∧ cap i = cap' i := fun i hi => by rcases hcap i with h | h <;> omega
    refine ⟨fun i => ⟨(hn i).1, by have := (h1 i).2; rcases hcap i with h | h <;> omega⟩, fun i j hi hj => h2 i j (lv i hi).1 (lv j hj).1, fun i hi => ?_⟩
    obtain ⟨y, arr, k1, k2, k3, k4⟩ := h3 i (lv i hi).1
    refine ⟨y, arr, k1, k2, by rw [← g1, ← (lv i hi).2]; exact k3, fun e he f col c hf hc => ?_⟩
    obtain ⟨x, hx, hle⟩ := g2 f col hf
    obtain ⟨d, hd, hle'⟩ := leCol_get hle he hc
    obtain ⟨v, hv, hs⟩ := k4 e (by have := (hn i).2; omega) f x d hx hd
    exact ⟨v, by rw [← g1]; exact hv, hs.le hle'⟩

/-- For each block of the second list the first has one that says as much. -/
def leHL (h : HL) : HL → Prop
  | [] => True
  | (k, b) :: r => (match find k h with | some c => leBlk c b | none => False) ∧ leHL h r
theorem leHL_at {h : HL} : ∀ {r : HL}, leHL h r → ∀ k b, find k r = some b → ∃ c, find k h = some c ∧ leBlk c b
  | [], _, k, b, hf => by simp [find] at hf
  | (k', b') :: r, hl, k, b, hf => by
    rw [find_cons] at hf
    split at hf
    · rename_i e; cases hf; subst e
      have := hl.1
      split at this
      · exact ⟨_, ‹_›, this⟩
      · exact this.elim
    · exact leHL_at hl.2 k b hf
def leTm : List (Option SV) → List (Option SV) → Prop
  | [], [] => True
  | _ :: l, none :: m => leTm l m
  | some x :: l, some y :: m => leSV x y ∧ leTm l m
  | _, _ => False
theorem leTm_at : ∀ {l m : List (Option SV)}, leTm l m → m.length = l.length ∧ ∀ (i : Nat) y, m[i]? = some (some y) → ∃ x, l[i]? = some (some x) ∧ leSV x y
  | [], [], _ => ⟨rfl, fun i y h => by simp at h⟩
  | x :: l, [], h => by cases x <;> exact h.elim
  | [], y :: m, h => by cases y <;> exact h.elim
  | x :: l, none :: m, h => by
    have h' : leTm l m := by cases x <;> exact h
    obtain ⟨h1, h2⟩ := leTm_at h'
    refine ⟨by simp [h1], fun i y hy => ?_⟩
    cases i with
    | zero => simp at hy
    | succ i => exact h2 i y (by simpa using hy)
  | none :: l, some y :: m, h => h.elim
  | some x :: l, some y :: m, h => by
    obtain ⟨h1, h2⟩ := leTm_at h.2
    refine ⟨by simp [h1], fun i z hz => ?_⟩
    cases i with
    | zero => simp at hz; subst hz; exact ⟨x, rfl, h.1⟩
    | succ i => exact h2 i z (by simpa using hz)
def leSt (s t : St) : Prop := s.H.D = t.H.D ∧ s.H.nxt ≤ t.H.nxt ∧ leTm s.tmps t.tmps ∧ leHL s.H.h t.H.h
theorem Inv.le {φ : Fr} {ρ : Rho} {s t : St} {a : Act} {w : World} (h : Inv φ ρ s a w) (hl : leSt s t) : Inv φ ρ t a w := by
  obtain ⟨hD, hn, ht, hh⟩ := hl
  have hsc : ∀ k, s.H.sc k → t.H.sc k := fun k hk => ⟨Nat.lt_of_lt_of_le hk.1 hn, hD ▸ hk.2⟩
  obtain ⟨g1, g2⟩ := leTm_at ht
  refine ⟨⟨h.heap.fr, fun k hk => hD ▸ h.heap.up k (Nat.le_trans hn hk), ?_, ?_, ?_, ?_, ?_⟩, h.defers, by rw [h.size, g1], ?_⟩
  · intro k b hf; obtain ⟨c, hc, _⟩ := leHL_at hh k b hf; exact hsc k (h.heap.lt k c hc)
  · intro k b hf
    obtain ⟨c, hc, hle⟩ := leHL_at hh k b hf
    exact Blk.sat_le hle (Blk.sat_ext (h.heap.sat k c hc) (.refl _ _) hsc (h.heap.lt k c hc))
  · intro k b hf i hi; obtain ⟨c, hc, hle⟩ := leHL_at hh k b hf; exact h.heap.bd k c hc i (leBlk_live hle hi)
  · intro k b hf hr i hi; obtain ⟨c, hc, hle⟩ := leHL_at hh k b hf; exact h.heap.may k c hc (leBlk_row hle hr) i (leBlk_live hle hi)
  · intro k b hf hr k' b' hf' hne j i hj hi
    obtain ⟨c, hc, hle⟩ := leHL_at hh k b hf
    obtain ⟨c', hc', hle'⟩ := leHL_at hh k' b' hf'
    exact h.heap.sep k c hc (leBlk_row hle hr) k' c' hc' hne j i (leBlk_live hle hj) (leBlk_live hle' hi)
  · intro k y hy
    obtain ⟨x, hx, hle⟩ := g2 k y hy
    obtain ⟨v, hv, hs⟩ := h.tmps k x hx
    exact ⟨v, hv, (hs.ext (.refl _ _) hsc).le hle⟩
end Go.Proofs.Ytjpnpaboahbncaa.Sx
