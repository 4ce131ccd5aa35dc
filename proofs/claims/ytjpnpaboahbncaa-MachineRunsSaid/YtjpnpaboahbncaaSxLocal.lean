/- Contracts that speak of some blocks alone, under names of their own: used where more lies about, under other names. Weaker states. -/
import Derived.Test.YtjpnpaboahbncaaSxExec
set_option linter.unusedVariables false
set_option linter.unusedSimpArgs false
namespace Go.Proofs.Ytjpnpaboahbncaa.Sx
open Go Go.RowKit

/-! ### Other names -/
def SC.ren (σ : Nat → Nat) : SC → SC
  | .ptr key i e f sz => .ptr (σ key) i e f sz
  | .slc key i e sz len cap => .slc (σ key) i e sz len cap
  | .ifc t key i e f sz => .ifc t (σ key) i e f sz
  | .fn f caps => .fn f (caps.map σ)
  | x => x
theorem SC.ren_den (σ : Nat → Nat) (ρ : Rho) (c : SC) : (c.ren σ).den ρ = c.den (fun k => ρ (σ k)) := by
  cases c <;> simp [SC.ren, SC.den, place]
def TE.ren (σ : Nat → Nat) : TE → TE
  | .c x => .c (x.ren σ)
  | .a l => .a (l.map (SC.ren σ))
theorem TE.ren_den (σ : Nat → Nat) (ρ : Rho) (c : TE) : (c.ren σ).den ρ = c.den (fun k => ρ (σ k)) := by
  cases c with
  | c x => exact x.ren_den σ ρ
  | a l =>
    simp only [TE.ren, TE.den, List.map_map]
    congr 2
    exact List.map_congr_left fun x _ => x.ren_den σ ρ
def SV.ren (σ : Nat → Nat) : SV → SV
  | .c x => .c (x.ren σ)
  | .a l => .a (l.map (SC.ren σ))
  | .t l => .t (l.map (TE.ren σ))
theorem SV.ren_den (σ : Nat → Nat) (ρ : Rho) (c : SV) : (c.ren σ).den ρ = c.den (fun k => ρ (σ k)) := by
  cases c with
  | c x => exact x.ren_den σ ρ
  | a l =>
    simp only [SV.ren, SV.den, List.map_map]
    congr 2
    exact List.map_congr_left fun x _ => x.ren_den σ ρ
  | t l =>
    simp only [SV.ren, SV.den, List.map_map]
    congr 2
    exact List.map_congr_left fun x _ => x.ren_den σ ρ
def Col.ren (σ : Nat → Nat) : Col → Col
  | .cs key sz len cap => .cs (σ key) sz len cap
  | .ck l => .ck (l.map (SC.ren σ))
  | c => c
theorem Col.ren_get (σ : Nat → Nat) (i e : Nat) (c : Col) : (c.ren σ).get i e = (c.get i e).map (SC.ren σ) := by
  cases c <;> simp [Col.ren, Col.get, SC.ren]
def Blk.ren (σ : Nat → Nat) : Blk → Blk
  | .own t size cs => .own t size (cs.map (Option.map (SC.ren σ)))
  | .row t cap n cols => .row t cap n (cols.map (Col.ren σ))
  | .view m n cols => .view m n (cols.map (Col.ren σ))
theorem Blk.ren_isRow (σ : Nat → Nat) (b : Blk) : (b.ren σ).isRow = b.isRow := by cases b <;> rfl

section
variable {n m : Nat → Prop} {ρ0 ρ : Rho} {σ : Nat → Nat}
theorem CIs.ren {c : SC} {v : Value} (hm : ∀ k, n k → m (σ k)) (hr : ∀ k, n k → ρ (σ k) = ρ0 k) (h : CIs n ρ0 c v) : CIs m ρ (c.ren σ) v := fun ρ'' ha => by
  rw [SC.ren_den]
  exact h _ fun k hk => by rw [← hr k hk]; exact ha (σ k) (hm k hk)
theorem SIs.ren {c : SV} {v : Value} (hm : ∀ k, n k → m (σ k)) (hr : ∀ k, n k → ρ (σ k) = ρ0 k) (h : SIs n ρ0 c v) : SIs m ρ (c.ren σ) v := fun ρ'' ha => by
  rw [SV.ren_den]
  exact h _ fun k hk => by rw [← hr k hk]; exact ha (σ k) (hm k hk)
def Back (n m : Nat → Prop) (ρ0 ρ : Rho) (σ : Nat → Nat) : Prop := ∀ r, Agree n ρ0 r → ∃ ρ'', Agree m ρ ρ'' ∧ ∀ k, ρ'' (σ k) = r k
theorem CIs.unren {c : SC} {v : Value} (hb : Back n m ρ0 ρ σ) (h : CIs m ρ (c.ren σ) v) : CIs n ρ0 c v := fun r ha => by
  obtain ⟨ρ'', h1, h2⟩ := hb r ha
  have := h ρ'' h1
  rw [SC.ren_den] at this
  rw [← this]; congr 1; funext k; exact (h2 k).symm
theorem SIs.unren {c : SV} {v : Value} (hb : Back n m ρ0 ρ σ) (h : SIs m ρ (c.ren σ) v) : SIs n ρ0 c v := fun r ha => by
  obtain ⟨ρ'', h1, h2⟩ := hb r ha
  have := h ρ'' h1
  rw [SV.ren_den] at this
  rw [← this]; congr 1; funext k; exact (h2 k).symm
theorem VIs.unren (hb : Back n m ρ0 ρ σ) : ∀ {l : List SV} {vs : List Value}, VIs m ρ (l.map (SV.ren σ)) vs → VIs n ρ0 l vs
  | [], [], _ => trivial
  | [], v :: vs, h => h.elim
  | x :: l, [], h => h.elim
  | x :: l, v :: vs, h => ⟨h.1.unren hb, VIs.unren hb h.2⟩

theorem Blk.sat_map {n m : Nat → Prop} {ρ0 ρ : Rho} {b b' : Blk} {k z : Nat} {w : World} (hk : ρ0 k = ρ z) (f : SC → SC) (hown : ∀ t size cs, b = .own t size cs → b' = .own t size (cs.map (Option.map f)))
    (hrow : ∀ t cap l cols, b = .row t cap l cols → ∃ g : Col → Col, (∀ c i e, (g c).get i e = (c.get i e).map f) ∧ b' = .row t cap l (cols.map g))
    (hview : ∀ l len cols, b = .view l len cols → ∃ g : Col → Col, (∀ c i e, (g c).get i e = (c.get i e).map f) ∧ b' = .view l len (cols.map g))
    (hc : ∀ c v, CIs n ρ0 c v → CIs m ρ (f c) v) (h : b.sat n ρ0 k w) : b'.sat m ρ z w := by
  cases b with
  | own t size cs =>
    rw [hown _ _ _ rfl]
    obtain ⟨y, arr, h1, h2, h3, h4, h5⟩ := h
    refine ⟨y, arr, by rw [← hk]; exact h1, h2, h3, by simpa using h4, fun i c hi => ?_⟩
    simp only [List.getElem?_map, Option.map_eq_some_iff] at hi
    obtain ⟨oc, ho, hc'⟩ := hi
    cases oc with
    | none => simp at hc'
    | some d =>
      simp at hc'; subst hc'
      obtain ⟨v, hv, hs⟩ := h5 i d ho
      exact ⟨v, hv, hc _ _ hs⟩
  | row t cap l cols =>
    obtain ⟨g, hg, e⟩ := hrow _ _ _ _ rfl
    rw [e]
    rcases h with h | ⟨y, arr, h1, h2, h3, h4, h4', h5⟩
    · exact .inl h
    refine .inr ⟨y, arr, by rw [← hk]; exact h1, h2, by simpa using h3, h4, h4', fun q hq f' col c hf hcol => ?_⟩
    simp only [List.getElem?_map, Option.map_eq_some_iff] at hf
    obtain ⟨col0, hf0, rfl⟩ := hf
    rw [hg, Option.map_eq_some_iff] at hcol
    obtain ⟨c0, hc0, rfl⟩ := hcol
    obtain ⟨v, hv, hs⟩ := h5 q hq f' col0 c0 hf0 hc0
    exact ⟨v, by simpa using hv, hc _ _ hs⟩
  | view l len cols =>
    obtain ⟨g, hg, e⟩ := hview _ _ _ rfl
    rw [e]
    intro i hi q hq
    obtain ⟨y, o, h1, h2⟩ := h i hi q hq
    refine ⟨y, o, by rw [← hk]; exact h1, fun f' col c hf hcol => ?_⟩
    simp only [List.getElem?_map, Option.map_eq_some_iff] at hf
    obtain ⟨col0, hf0, rfl⟩ := hf
    rw [hg, Option.map_eq_some_iff] at hcol
    obtain ⟨c0, hc0, rfl⟩ := hcol
    obtain ⟨v, hv, hs⟩ := h2 f' col0 c0 hf0 hc0
    exact ⟨v, by simpa using hv, hc _ _ hs⟩
theorem Blk.sat_ren {b : Blk} {k : Nat} {w : World} (hk : ρ0 k = ρ (σ k)) (hm : ∀ k, n k → m (σ k)) (hr : ∀ k, n k → ρ (σ k) = ρ0 k) (h : b.sat n ρ0 k w) : (b.ren σ).sat m ρ (σ k) w :=
  Blk.sat_map (b' := b.ren σ) hk (SC.ren σ) (fun _ _ _ e => by subst e; rfl) (fun _ _ _ _ e => by subst e; exact ⟨Col.ren σ, fun c i e => Col.ren_get σ i e c, rfl⟩) (fun _ _ _ e => by subst e; exact ⟨Col.ren σ, fun c i e => Col.ren_get σ i e c, rfl⟩) (fun c v hc => hc.ren hm hr) h
theorem Blk.sat_unren {b : Blk} {k : Nat} {w : World} (hk : ρ0 k = ρ (σ k)) (hb : Back n m ρ0 ρ σ) (h : (b.ren σ).sat m ρ (σ k) w) : b.sat n ρ0 k w := by
  cases b with
  | own t size cs =>
    obtain ⟨y, arr, h1, h2, h3, h4, h5⟩ := h
    refine ⟨y, arr, by rw [hk]; exact h1, h2, h3, by simpa using h4, fun i c hi => ?_⟩
    obtain ⟨v, hv, hs⟩ := h5 i (c.ren σ) (by simp [hi])
    exact ⟨v, hv, hs.unren hb⟩
  | row t cap l cols =>
    rcases h with h | ⟨y, arr, h1, h2, h3, h4, h4', h5⟩
    · exact .inl h
    refine .inr ⟨y, arr, by rw [hk]; exact h1, h2, by simpa using h3, h4, h4', fun q hq f' col c hf hcol => ?_⟩
    obtain ⟨v, hv, hs⟩ := h5 q hq f' (col.ren σ) (c.ren σ) (by simp [hf]) (by rw [Col.ren_get, hcol]; rfl)
    exact ⟨v, by simpa using hv, hs.unren hb⟩
  | view l len cols =>
    intro i hi q hq
    obtain ⟨y, o, h1, h2⟩ := h i hi q hq
    refine ⟨y, o, by rw [hk]; exact h1, fun f' col c hf hcol => ?_⟩
    obtain ⟨v, hv, hs⟩ := h2 f' (col.ren σ) (c.ren σ) (by simp [hf]) (by rw [Col.ren_get, hcol]; rfl)
    exact ⟨v, by simpa using hv, hs.unren hb⟩
end

/-! ### Weaker descriptions: the second says no more than the first -/
def leSC : SC → SC → Prop
  | .kb b, .kb b' | .kb b, .bv b' | .bv b, .kb b' | .bv b, .bv b' => b = b'
  | .ki k n, .ki k' n' | .ki k n, .iv k' n' | .iv k n, .ki k' n' | .iv k n, .iv k' n' => k = k' ∧ n = n'
  | .nilp, .nilp => True
  | .ptr key i e f sz, .ptr key' i' e' f' sz' => key = key' ∧ i.v = i'.v ∧ e.v = e'.v ∧ f = f' ∧ sz = sz'
  | .nils, .nils => True
  | .slc key i e sz len cap, .slc key' i' e' sz' len' cap' => key = key' ∧ i.v = i'.v ∧ e.v = e'.v ∧ sz = sz' ∧ len.v = len'.v ∧ cap.v = cap'.v
  | .nilI, .nilI => True
  | .ifc t key i e f sz, .ifc t' key' i' e' f' sz' => t = t' ∧ key = key' ∧ i.v = i'.v ∧ e.v = e'.v ∧ f = f' ∧ sz = sz'
  | .fn f caps, .fn f' caps' => f = f' ∧ caps = caps'
  | .nilF, .nilF => True
  | .val v, .val v' => v = v'
  | _, _ => False
theorem leSC_den {x y : SC} (h : leSC x y) (ρ : Rho) : x.den ρ = y.den ρ := by
  cases x <;> cases y <;> simp_all [leSC, SC.den, place]
def leL : List SC → List SC → Prop
  | [], [] => True
  | x :: l, y :: m => leSC x y ∧ leL l m
  | _, _ => False
theorem leL_den {ρ : Rho} : ∀ {x y : List SC}, leL x y → x.map (SC.den ρ) = y.map (SC.den ρ)
  | [], [], _ => rfl
  | [], y :: m, h => h.elim
  | x :: l, [], h => h.elim
  | x :: l, y :: m, h => by rw [List.map_cons, List.map_cons, leSC_den h.1, leL_den h.2]
def leTE : TE → TE → Prop
  | .c x, .c y => leSC x y
  | .a l, .a m => leL l m
  | _, _ => False
theorem leTE_den {x y : TE} (h : leTE x y) (ρ : Rho) : x.den ρ = y.den ρ := by
  cases x <;> cases y <;> try exact h.elim
  · exact leSC_den h ρ
  · simp only [TE.den, leL_den (ρ := ρ) h]
def leTs : List TE → List TE → Prop
  | [], [] => True
  | x :: l, y :: m => leTE x y ∧ leTs l m
  | _, _ => False
theorem leTs_den {ρ : Rho} : ∀ {x y : List TE}, leTs x y → x.map (TE.den ρ) = y.map (TE.den ρ)
  | [], [], _ => rfl
  | [], y :: m, h => h.elim
  | x :: l, [], h => h.elim
  | x :: l, y :: m, h => by rw [List.map_cons, List.map_cons, leTE_den h.1, leTs_den h.2]
def leSV : SV → SV → Prop
  | .c x, .c y => leSC x y
  | .a l, .a m => leL l m
  | .t l, .t m => leTs l m
  | _, _ => False
theorem leSV_den {x y : SV} (h : leSV x y) (ρ : Rho) : x.den ρ = y.den ρ := by
  cases x <;> cases y <;> try exact h.elim
  · exact leSC_den h ρ
  · simp only [SV.den, leL_den h]
  · simp only [SV.den, leTs_den (ρ := ρ) h]
theorem SIs.le {n : Nat → Prop} {ρ : Rho} {x y : SV} {v : Value} (h : SIs n ρ x v) (hl : leSV x y) : SIs n ρ y v := fun r ha => by rw [← leSV_den hl]; exact h r ha
theorem CIs.le {n : Nat → Prop} {ρ : Rho} {x y : SC} {v : Value} (h : CIs n ρ x v) (hl : leSC x y) : CIs n ρ y v := fun r ha => by rw [← leSC_den hl]; exact h r ha
def leVs : List SV → List SV → Prop
  | [], [] => True
  | x :: l, y :: m => leSV x y ∧ leVs l m
  | _, _ => False
theorem VIs.le {n : Nat → Prop} {ρ : Rho} : ∀ {l m : List SV} {vs : List Value}, VIs n ρ l vs → leVs l m → VIs n ρ m vs
  | [], [], _, h, _ => h
  | [], y :: m, _, _, h => h.elim
  | x :: l, [], _, _, h => h.elim
  | x :: l, y :: m, [], h, _ => h.elim
  | x :: l, y :: m, v :: vs, h, g => ⟨h.1.le g.1, VIs.le h.2 g.2⟩
def leOL : List (Option SC) → List (Option SC) → Prop
  | _, [] => True
  | _ :: l, none :: m => leOL l m
  | some x :: l, some y :: m => leSC x y ∧ leOL l m
  | _, _ => False
theorem leOL_at : ∀ {l m : List (Option SC)}, leOL l m → m.length ≤ l.length ∧ ∀ (i : Nat) y, m[i]? = some (some y) → ∃ x, l[i]? = some (some x) ∧ leSC x y
  | l, [], _ => ⟨Nat.zero_le _, fun i y h => by simp at h⟩
  | [], y :: m, h => by cases y <;> exact h.elim
  | x :: l, none :: m, h => by
    have h' : leOL l m := by cases x <;> exact h
    obtain ⟨h1, h2⟩ := leOL_at h'
    refine ⟨by simpa using h1, fun i y hy => ?_⟩
    cases i with
    | zero => simp at hy
    | succ i => exact h2 i y (by simpa using hy)
  | none :: l, some y :: m, h => h.elim
  | some x :: l, some y :: m, h => by
    obtain ⟨h1, h2⟩ := leOL_at h.2
    refine ⟨by simpa using h1, fun i z hz => ?_⟩
    cases i with
    | zero => simp at hz; subst hz; exact ⟨x, rfl, h.1⟩
    | succ i => exact h2 i z (by simpa using hz)
def leCol (n : Nat) : Col → Col → Prop
  | _, .cu => True
  | .ci k g, .ci k' g' => k = k' ∧ ∀ e, e < n → g 0 e = g' 0 e
  | .cb g, .cb g' => ∀ e, e < n → g 0 e = g' 0 e
  | .cs key sz len cap, .cs key' sz' len' cap' => key = key' ∧ sz = sz' ∧ (∀ e, e < n → len 0 e = len' 0 e) ∧ ∀ e, e < n → cap 0 e = cap' 0 e
  | .ck l, .ck m => leL l m
  | _, _ => False
theorem leL_at : ∀ {x y : List SC}, leL x y → ∀ (i : Nat) b, y[i]? = some b → ∃ a, x[i]? = some a ∧ leSC a b
  | [], [], _, i, b, h => by simp at h
  | [], y :: m, h, _, _, _ => h.elim
  | x :: l, [], h, _, _, _ => h.elim
  | x :: l, y :: m, h, i, b, hb => by
    cases i with
    | zero => simp at hb; subst hb; exact ⟨x, rfl, h.1⟩
    | succ i => exact leL_at h.2 i b (by simpa using hb)
theorem leCol_get {n : Nat} {c d : Col} (h : leCol n c d) {e : Nat} (he : e < n) {y : SC} (hy : d.get 0 e = some y) : ∃ x, c.get 0 e = some x ∧ leSC x y := by
  cases d with
  | cu => simp [Col.get] at hy
  | ci k g =>
    cases c <;> try exact h.elim
    simp [Col.get] at hy; subst hy
    exact ⟨_, rfl, h.1, h.2 e he⟩
  | cb g =>
    cases c <;> try exact h.elim
    simp [Col.get] at hy; subst hy
    exact ⟨_, rfl, h e he⟩
  | cs key sz len cap =>
    cases c <;> try exact h.elim
    simp [Col.get] at hy; subst hy
    exact ⟨_, rfl, h.1, rfl, rfl, h.2.1, h.2.2.1 e he, h.2.2.2 e he⟩
  | ck m =>
    cases c <;> try exact h.elim
    simp only [Col.get] at hy ⊢
    exact leL_at h e y hy
def leCols (n : Nat) : List Col → List Col → Prop
  | [], [] => True
  | x :: l, y :: m => leCol n x y ∧ leCols n l m
  | _, _ => False
theorem leCols_at {n : Nat} : ∀ {x y : List Col}, leCols n x y → x.length = y.length ∧ ∀ (i : Nat) b, y[i]? = some b → ∃ a, x[i]? = some a ∧ leCol n a b
  | [], [], _ => ⟨rfl, fun i b h => by simp at h⟩
  | [], y :: m, h => h.elim
  | x :: l, [], h => h.elim
  | x :: l, y :: m, h => by
    obtain ⟨h1, h2⟩ := leCols_at h.2
    refine ⟨by simp [h1], fun i b hb => ?_⟩
    cases i with
    | zero => simp at hb; subst hb; exact ⟨x, rfl, h.1⟩
    | succ i => exact h2 i b (by simpa using hb)
def leBlk : Blk → Blk → Prop
  | .own t size cs, .own t' size' cs' => t = t' ∧ size = size' ∧ leOL cs cs'
  | .row t cap n cols, .row t' cap' n' cols' => t = t' ∧ cap = cap' ∧ n = n' ∧ leCols n cols cols'
  | .view m n cols, .view m' n' cols' => m = m' ∧ n = n' ∧ cols = cols'
  | _, _ => False
theorem leBlk_row {b b' : Blk} (h : leBlk b b') : b.isRow = b'.isRow := by cases b <;> cases b' <;> first | rfl | exact h.elim
theorem Blk.sat_le {n : Nat → Prop} {ρ : Rho} {k : Nat} {w : World} {b b' : Blk} (hl : leBlk b b') (h : b.sat n ρ k w) : b'.sat n ρ k w := by
  cases b <;> cases b' <;> try exact hl.elim
  · obtain ⟨rfl, rfl, hl⟩ := hl
    obtain ⟨y, arr, h1, h2, h3, h4, h5⟩ := h
    obtain ⟨g1, g2⟩ := leOL_at hl
    refine ⟨y, arr, h1, h2, h3, by omega, fun i c hi => ?_⟩
    obtain ⟨x, hx, hle⟩ := g2 i c hi
    obtain ⟨v, hv, hs⟩ := h5 i x hx
    exact ⟨v, hv, hs.le hle⟩
  · obtain ⟨rfl, rfl, rfl, hl⟩ := hl
    obtain ⟨g1, g2⟩ := leCols_at hl
    rcases h with h | ⟨y, arr, h1, h2, h3, h4, h4', h5⟩
    · exact .inl h
    refine .inr ⟨y, arr, h1, h2, by rw [← g1]; exact h3, h4, h4', fun e he f col c hf hc => ?_⟩
    obtain ⟨x, hx, hle⟩ := g2 f col hf
    obtain ⟨d, hd, hle'⟩ := leCol_get hle he hc
    obtain ⟨v, hv, hs⟩ := h5 e he f x d hx hd
    exact ⟨v, by rw [← g1]; exact hv, hs.le hle'⟩
  · obtain ⟨rfl, rfl, rfl⟩ := hl; exact h

/-- For each block of the second list the first has one that says as much. -/
def leHL (h : HL) : HL → Prop
  | [] => True
  | (k, b) :: r => (match find k h with | some c => leBlk c b | none => False) ∧ leHL h r
theorem leHL_at {h : HL} : ∀ {r : HL}, leHL h r → ∀ k b, find k r = some b → ∃ c, find k h = some c ∧ leBlk c b
  | [], _, k, b, hf => by simp [find] at hf
  | (k', b') :: r, hl, k, b, hf => by
    rw [find_cons] at hf
    split at hf
    · rename_i e; cases hf; subst e
      have := hl.1
      split at this
      · exact ⟨_, ‹_›, this⟩
      · exact this.elim
    · exact leHL_at hl.2 k b hf
def leTm : List (Option SV) → List (Option SV) → Prop
  | [], [] => True
  | _ :: l, none :: m => leTm l m
  | some x :: l, some y :: m => leSV x y ∧ leTm l m
  | _, _ => False
theorem leTm_at : ∀ {l m : List (Option SV)}, leTm l m → m.length = l.length ∧ ∀ (i : Nat) y, m[i]? = some (some y) → ∃ x, l[i]? = some (some x) ∧ leSV x y
  | [], [], _ => ⟨rfl, fun i y h => by simp at h⟩
  | x :: l, [], h => by cases x <;> exact h.elim
  | [], y :: m, h => by cases y <;> exact h.elim
  | x :: l, none :: m, h => by
    have h' : leTm l m := by cases x <;> exact h
    obtain ⟨h1, h2⟩ := leTm_at h'
    refine ⟨by simp [h1], fun i y hy => ?_⟩
    cases i with
    | zero => simp at hy
    | succ i => exact h2 i y (by simpa using hy)
  | none :: l, some y :: m, h => h.elim
  | some x :: l, some y :: m, h => by
    obtain ⟨h1, h2⟩ := leTm_at h.2
    refine ⟨by simp [h1], fun i z hz => ?_⟩
    cases i with
    | zero => simp at hz; subst hz; exact ⟨x, rfl, h.1⟩
    | succ i => exact h2 i z (by simpa using hz)
def leSt (s t : St) : Prop := s.H.D = t.H.D ∧ s.H.nxt ≤ t.H.nxt ∧ leTm s.tmps t.tmps ∧ leHL s.H.h t.H.h
theorem Inv.le {φ : Fr} {ρ : Rho} {s t : St} {a : Act} {w : World} (h : Inv φ ρ s a w) (hl : leSt s t) : Inv φ ρ t a w := by
  obtain ⟨hD, hn, ht, hh⟩ := hl
  have hsc : ∀ k, s.H.sc k → t.H.sc k := fun k hk => ⟨Nat.lt_of_lt_of_le hk.1 hn, hD ▸ hk.2⟩
  obtain ⟨g1, g2⟩ := leTm_at ht
  refine ⟨⟨h.heap.fr, fun k hk => hD ▸ h.heap.up k (Nat.le_trans hn hk), ?_, ?_, ?_, ?_, ?_⟩, h.defers, by rw [h.size, g1], ?_⟩
  · intro k b hf; obtain ⟨c, hc, _⟩ := leHL_at hh k b hf; exact hsc k (h.heap.lt k c hc)
  · intro k b hf
    obtain ⟨c, hc, hle⟩ := leHL_at hh k b hf
    exact Blk.sat_le hle (Blk.sat_ext (h.heap.sat k c hc) (.refl _ _) hsc (h.heap.lt k c hc))
  · intro k b hf; obtain ⟨c, hc, _⟩ := leHL_at hh k b hf; exact h.heap.bd k c hc
  · intro k b hf hr; obtain ⟨c, hc, hle⟩ := leHL_at hh k b hf; exact h.heap.may k c hc (by rw [leBlk_row hle]; exact hr)
  · intro k b hf hr k' b' hf'
    obtain ⟨c, hc, hle⟩ := leHL_at hh k b hf
    obtain ⟨c', hc', _⟩ := leHL_at hh k' b' hf'
    exact h.heap.sep k c hc (by rw [leBlk_row hle]; exact hr) k' c' hc'
  · intro k y hy
    obtain ⟨x, hx, hle⟩ := g2 k y hy
    obtain ⟨v, hv, hs⟩ := h.tmps k x hx
    exact ⟨v, hv, (hs.ext (.refl _ _) hsc).le hle⟩
end Go.Proofs.Ytjpnpaboahbncaa.Sx
