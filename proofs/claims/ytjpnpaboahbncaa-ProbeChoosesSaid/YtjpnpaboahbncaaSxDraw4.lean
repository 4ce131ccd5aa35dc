/- A region that draws its order: the soundness, joined. -/
import Derived.Test.YtjpnpaboahbncaaSxDraw3
set_option linter.unusedVariables false
set_option linter.unusedSimpArgs false
namespace Go.Proofs.Ytjpnpaboahbncaa.Sx
open Go Go.RowKit

section
variable {R : Rg}
theorem dsts_h (hd : dstsOK R.anc R.ops = true) {i j t : Nat} (hij : i < j) (hi : R.dst i = some t) (hj : R.dst j = some t) : R.anc j i = true := by
  simp only [Rg.dst, Option.bind_eq_some_iff] at hi hj
  obtain ⟨oi, hi1, hi2⟩ := hi
  obtain ⟨oj, hj1, hj2⟩ := hj
  have := (dstsL_h (t := t) hd).2 i j oi oj hij hi1 hj1 hi2 hj2
  simpa using this
theorem disj_h {a b : List Nat} (h : disj a b = true) : ∀ key ∈ a, key ∉ b := by
  simp only [disj, List.all_eq_true] at h
  intro key hk hb
  have := h key hk
  rw [mem_iff.2 hb] at this; cases this
theorem compat_h {anc : Nat → Nat → Bool} {L : LM Lf} {n : Nat} (h : compat anc L n = true) {i j : Nat} {x y : Lf} (hij : i < j) (hj : j < n) (ha : anc j i = false) (hi : L i = some x) (hy : L j = some y) : Apart x y := by
  simp only [compat, List.all_eq_true, List.mem_range] at h
  have := h j hj i hij
  rw [ha, hi, hy] at this
  simp only [Bool.false_or, fits, Bool.and_eq_true] at this
  exact ⟨disj_h this.1, disj_h this.2⟩

/-- What an operation sees is there, and was laid by a forerunner. -/
theorem seen (ha : AncOK R.ops R.anc) (he : edgesOK R.ops 0 = true) {φ : Fr} {ρ : Rho} {L : LM Lf} {a : Act} {w : World} (hs : SatR R φ ρ L a w) {k : Nat} (hk : L k = none) {key : Nat} {b : Blk} (hf : find key (R.hV k L) = some b)
    (hc : ∀ j y, L j = some y → Free R j k → key ∉ y.W) : find key (R.hD L) = some b ∧ (∀ x, R.scO (tag allS L key R.n) x → x < R.N k ∧ R.D k x) := by
  have hfree : ∀ j y, L j = some y → R.anc k j = false → Free R j k := by
    intro j y hj h
    refine ⟨?_, h⟩
    cases hb : R.anc j k with
    | false => rfl
    | true => have := hs.wf.down j k (by simp [hj]) hb; rw [hk] at this; cases this
  obtain ⟨e1, e2⟩ := vh_congr (s1 := allS) (s2 := R.anc k) (L1 := L) (L2 := L) (key := key) (h := R.s0.H.h) R.n (fun j hj => by
    cases hb : R.anc k j with
    | true => exact .inl ⟨rfl, rfl⟩
    | false =>
      refine .inr ⟨fun x _ hx => not_aff ha he hs.base hs.wf hf hx hb (hc j x hx (hfree j x hx hb)), fun x h _ => ?_⟩
      cases h)
  refine ⟨by unfold Rg.hD; rw [e1]; exact hf, ?_⟩
  rw [e2]
  intro x hx
  cases ht : tag (R.anc k) L key R.n with
  | none =>
    rw [ht] at hx
    exact ⟨Nat.lt_of_lt_of_le hx.1 (N_base k), .inl hx⟩
  | some j =>
    rw [ht] at hx
    obtain ⟨h1, h2, h3⟩ := tag_lt ht
    have hjk := ha.lt he k j h2
    have hN := N_lt (R := R) hjk
    obtain ⟨hx1, hx2⟩ := hx
    refine ⟨by omega, ?_⟩
    rcases hx2 with h | ⟨i, h, h'⟩ | h
    · exact .inl h
    · exact .inr (.inl ⟨i, ha.trans he k j i h2 h, h'⟩)
    · exact .inr (.inl ⟨j, h2, h, hx1⟩)

def ownOf (ρ : Rho) (h : HL) : Nat → Prop := fun y => ∃ key b i o, find key h = some b ∧ b.isRow = true ∧ b.live i ∧ ρ key i = some (y, o)

theorem view_tmps (ha : AncOK R.ops R.anc) (he : edgesOK R.ops 0 = true) {φ : Fr} {ρ : Rho} {L : LM Lf} {a : Act} {w : World} (hs : SatR R φ ρ L a w) {k : Nat} (hk : L k = none) {n : Nat → Prop} (hn : ∀ x, x < R.N k ∧ R.D k x → n x) :
    ∀ (t : Nat) (sv : SV), (R.view k L).tmps[t]? = some (some sv) → ∃ v, a.tmps[t]? = some v ∧ SIs n ρ sv v := by
  intro t sv hv
  have hlen : t < R.s0.tmps.length := by
    have := (List.getElem?_eq_some_iff.1 hv).1
    simpa [Rg.view, vt_length] using this
  have h1 := vt_is (R := R) (A := R.anc) (k := k) (L := L) (t := t) (fun j _ h => by
    cases hj : L j with
    | none => rfl
    | some x => have := hs.wf.down j k (by simp [hj]) h; rw [hk] at this; cases this) R.ops 0 R.s0.tmps (fun i => by simp) (fun sv h => h) sv hv
  have h2 := hs.slots t hlen
  simp only [Nat.zero_add] at h1
  change match lastD R.dst L t R.n with | some j => _ | none => _ at h1
  cases hl : lastD R.dst L t R.n with
  | none =>
    rw [hl] at h1 h2
    obtain ⟨v, hv, hi⟩ := h2 sv h1
    exact ⟨v, hv, hi.ext (.refl _ _) (fun x hx => hn x ⟨Nat.lt_of_lt_of_le hx.1 (N_base k), .inl hx⟩)⟩
  | some j =>
    rw [hl] at h1 h2
    obtain ⟨hjk, x, hx, rfl⟩ := h1
    obtain ⟨v, hv, hi⟩ := h2 x hx
    have hlt := ha.lt he k j hjk
    have hN := N_lt (R := R) hlt
    refine ⟨v, hv, hi.ext (.refl _ _) (fun y hy => hn y ⟨?_, ?_⟩)⟩
    · have := hy.1; omega
    · rcases hy.2 with h | ⟨i, h, h'⟩ | h
      · exact .inl h
      · exact .inr (.inl ⟨i, ha.trans he k j i hjk h, h'⟩)
      · exact .inr (.inl ⟨j, hjk, h, hy.1⟩)

theorem view_inv (ha : AncOK R.ops R.anc) (he : edgesOK R.ops 0 = true) {φ : Fr} {ρ : Rho} {L : LM Lf} {a : Act} {w : World} (hs : SatR R φ ρ L a w) {k : Nat} (hk : L k = none) (F W : List Nat)
    (hc : ∀ key b, find key (restr F W (R.hV k L)) = some b → ∀ j y, L j = some y → Free R j k → key ∉ y.W) :
    Inv ⟨w, ownOf ρ (restr F W (R.hV k L))⟩ ρ ⟨(R.view k L).tmps, ⟨restr F W (R.hV k L), R.N k, R.D k⟩⟩ a w := by
  have lv : ∀ b b' : Blk, (b' = b ∨ b' = b.ro) → (∀ t cap n cols, b = .row t cap n cols → n ≤ cap) → ∀ i, b'.live i → b.live i := by
    rintro b b' (rfl | rfl) hs i hi
    · exact hi
    · exact Blk.ro_live hs hi
  have fr : ∀ key b', find key (restr F W (R.hV k L)) = some b' → ∃ b, find key (R.hV k L) = some b ∧ (b' = b ∨ b' = b.ro) := by
    intro key b' hf
    rw [find_restr] at hf
    split at hf
    · exact ⟨b', hf, .inl rfl⟩
    · split at hf
      · obtain ⟨b, hb, rfl⟩ := Option.map_eq_some_iff.1 hf
        exact ⟨b, hb, .inr rfl⟩
      · cases hf
  have key3 : ∀ key b', find key (restr F W (R.hV k L)) = some b' → ∃ b, find key (R.hD L) = some b ∧ (b' = b ∨ b' = b.ro) ∧ b'.sat (Hp.sc ⟨restr F W (R.hV k L), R.N k, R.D k⟩) ρ key w ∧ Hp.sc ⟨restr F W (R.hV k L), R.N k, R.D k⟩ key := by
    intro key b' hf
    obtain ⟨b, hb, hor⟩ := fr key b' hf
    obtain ⟨h1, h2⟩ := seen ha he hs hk hb (hc key b' hf)
    have hor' := origin ha he hs.base hs.wf k key b hb
    have hsc : Hp.sc ⟨restr F W (R.hV k L), R.N k, R.D k⟩ key := by
      rcases hor' with h | ⟨j, h, h3, h4⟩
      · exact ⟨Nat.lt_of_lt_of_le h.1 (N_base k), .inl h⟩
      · have := N_lt (R := R) (ha.lt he k j h)
        exact ⟨by show key < R.N k; omega, .inr (.inl ⟨j, h, h3, h4⟩)⟩
    have hsat := hs.sat key b h1
    have hkey : R.scO (tag allS L key R.n) key := by
      rcases vh_tag R.n h1 with ⟨j, x, g1, g2, g3, g4, g5⟩ | ⟨g1, g2⟩
      · rw [g1]
        rcases hs.wf.updk j x g4 key b g5 with h | h
        · obtain ⟨b2, hb2⟩ := Option.isSome_iff_exists.1 (hs.wf.ff j x g4 key (hs.wf.wf j x g4 key h))
          rcases origin ha he hs.base hs.wf j key b2 hb2 with h5 | ⟨i, h5, h6, h7⟩
          · refine ⟨?_, .inl h5⟩
            have := h5.1; have := N_base (R := R) j; omega
          · have := N_lt (R := R) (ha.lt he j i h5)
            exact ⟨by omega, .inr (.inl ⟨i, h5, h6, h7⟩)⟩
        · exact ⟨h.2, .inr (.inr h.1)⟩
      · rw [g1]; exact hs.base key b g2
    have hsat' : b.sat (Hp.sc ⟨restr F W (R.hV k L), R.N k, R.D k⟩) ρ key w := Blk.sat_ext hsat (.refl _ _) (fun x hx => h2 x hx) hkey
    refine ⟨b, h1, hor, ?_, hsc⟩
    rcases hor with rfl | rfl
    · exact hsat'
    · exact Blk.ro_sat hsat'
  refine ⟨⟨⟨rfl, rfl, rfl, Nat.le_refl _, fun _ _ _ => rfl⟩, fun x hx => .inr (.inr hx), fun key b h => (key3 key b h).choose_spec.2.2.2, fun key b h => (key3 key b h).choose_spec.2.2.1, ?_, ?_, ?_⟩, hs.defers, ?_, ?_⟩
  · intro key b h
    obtain ⟨c, h1, hor, _⟩ := key3 key b h
    exact fun i hi => hs.bd key c h1 i (lv c b hor (Blk.sat_row_le (hs.sat key c h1)) i hi)
  · intro key b h hr i hi y o hy
    exact .inl ⟨key, b, i, o, h, hr, hi, hy⟩
  · intro key b h hr key' b' h' hne j i hj hi
    obtain ⟨c, h1, hor, _⟩ := key3 key b h
    obtain ⟨c', h1', hor', _⟩ := key3 key' b' h'
    refine hs.sep key c h1 ?_ key' c' h1' hne j i (lv c b hor (Blk.sat_row_le (hs.sat key c h1)) j hj) (lv c' b' hor' (Blk.sat_row_le (hs.sat key' c' h1')) i hi)
    rcases hor with rfl | rfl
    · exact hr
    · rw [Blk.ro_isRow] at hr; cases hr
  · simp [Rg.view, vt_length, hs.size]
  · exact view_tmps ha he hs hk (fun x hx => hx)

/-- One operation more. -/
theorem sat_next (ha : AncOK R.ops R.anc) (he : edgesOK R.ops 0 = true) (hd : dstsOK R.anc R.ops = true) {φ : Fr} {ρ ρ' : Rho} {L : LM Lf} {a : Act} {w w' : World} (hs : SatR R φ ρ L a w) {k : Nat} (hk : L k = none) (hkn : k < R.n)
    (hanc : ∀ j, R.anc k j = true → (L j).isSome) {x : Lf} {v : Value}
    (hcmp : ∀ j y, L j = some y → Free R j k → Apart y x) (hWF : ∀ key ∈ x.W, key ∈ x.F) (hF : ∀ key ∈ x.F, (find key (R.hV k L)).isSome)
    (hup : ∀ key b, find key x.upd = some b → (key ∈ x.W ∨ (R.N k ≤ key ∧ key < R.N k + R.S)) ∧ b.isRow = true ∧ b.sat (R.scope k) ρ' key w' ∧ (∀ i, b.live i → ∀ y o, ρ' key i = some (y, o) → y < w'.heap.size) ∧
      (∀ i, b.live i → ∀ y o, ρ' key i = some (y, o) → (∃ z ∈ x.W, ∃ c i' o', find z (R.hD L) = some c ∧ c.isRow = true ∧ c.live i' ∧ ρ z i' = some (y, o')) ∨ w.heap.size ≤ y))
    (hsepn : ∀ key b, find key x.upd = some b → ∀ key' b', find key' x.upd = some b' → key' ≠ key → ∀ j i, b.live j → b'.live i → ∀ y o y' o', ρ' key j = some (y, o) → ρ' key' i = some (y', o') → y' ≠ y)
    (hout : ∀ z, ¬ (R.N k ≤ z ∧ z < R.N k + R.S) → ρ' z = ρ z)
    (hblk : ∀ y, y < w.heap.size → (¬ ∃ z ∈ x.W, ∃ c i' o', find z (R.hD L) = some c ∧ c.isRow = true ∧ c.live i' ∧ ρ z i' = some (y, o')) → w'.heap[y]? = w.heap[y]?)
    (hok : φ.ok w') (hsz : w.heap.size ≤ w'.heap.size) (hv : SIs (R.scope k) ρ' x.sv v) :
    SatR R φ ρ' (L.set k x) (a.put (R.dst k) v) w' := by
  have hfree : ∀ j y, L j = some y → R.anc k j = false → Free R j k := by
    intro j y hj h
    refine ⟨?_, h⟩
    cases hb : R.anc j k with
    | false => rfl
    | true => have := hs.wf.down j k (by simp [hj]) hb; rw [hk] at this; cases this
  have hjk : ∀ j y, L j = some y → R.anc j k = false := by
    intro j y hj
    cases hb : R.anc j k with
    | false => rfl
    | true => have := hs.wf.down j k (by simp [hj]) hb; rw [hk] at this; cases this
  have hjne : ∀ j y, L j = some y → j ≠ k := by rintro j y hj rfl; rw [hk] at hj; cases hj
  -- nobody that is done touches what this one has written
  have hno : ∀ key, x.aff key → ∀ j y, L j = some y → R.anc k j = false → ¬ y.aff key := by
    intro key hx j y hj hf
    have hcase : key ∈ x.W ∨ (R.N k ≤ key ∧ key < R.N k + R.S) := by
      rcases hx with h | h
      · exact .inl h
      · obtain ⟨b, hb⟩ := Option.isSome_iff_exists.1 h
        exact (hup key b hb).1
    rcases hcase with h | ⟨h1, h2⟩
    · obtain ⟨b, hb⟩ := Option.isSome_iff_exists.1 (hF key (hWF key h))
      refine not_aff ha he hs.base hs.wf hb hj hf ?_
      have := hcmp j y hj (hfree j y hj hf)
      exact fun hy => this.1 key hy (hWF key h)
    · exact not_aff_new ha he hs.base hs.wf h1 h2 hj (hjne j y hj) (hjk j y hj)
  have hlater : ∀ key, x.aff key → ∀ j y, k < j → L j = some y → ¬ y.aff key := by
    intro key hx j y hlt hj
    refine hno key hx j y hj ?_
    cases hb : R.anc k j with
    | false => rfl
    | true => have := ha.lt he k j hb; omega
  have hD := fun key => (hD_set (h := R.s0.H.h) (x := x) hk key (hlater key) R.n).2 hkn
  have agr : ∀ t y, t = tag allS L y R.n → Agree (R.scO t) ρ ρ' := by
    intro t key ht z hz'
    refine hout z ?_
    rintro ⟨h1, h2⟩
    cases t with
    | none => have := hz'.1; have := N_base (R := R) k; omega
    | some j =>
      obtain ⟨g1, g2, g3⟩ := tag_lt ht.symm
      obtain ⟨y, hy⟩ := Option.isSome_iff_exists.1 g3
      rcases hz'.2 with h | ⟨i, h, h3, h4⟩ | h
      · have := h.1; have := N_base (R := R) k; omega
      · have := N_inj h1 h2 h3 h4
        subst this
        rw [hjk j y hy] at h; cases h
      · exact hjne j y hy (N_inj h hz'.1 h1 h2)
  have agj : ∀ j y, L j = some y → Agree (R.scope j) ρ ρ' := by
    intro j y hy z hz'
    refine hout z ?_
    rintro ⟨h1, h2⟩
    rcases hz'.2 with h | ⟨i, h, h3, h4⟩ | h
    · have := h.1; have := N_base (R := R) k; omega
    · have := N_inj h1 h2 h3 h4
      subst this
      rw [hjk j y hy] at h; cases h
    · exact hjne j y hy (N_inj h hz'.1 h1 h2)
  have agb : Agree R.s0.H.sc ρ ρ' := by
    intro z hz'
    refine hout z ?_
    rintro ⟨h1, h2⟩
    have := hz'.1; have := N_base (R := R) k; omega
  -- every key that lies there: this one's, or an elder one
  have split : ∀ key b, find key (R.hD (L.set k x)) = some b → (find key x.upd = some b ∧ tag allS (L.set k x) key R.n = some k) ∨ (¬ x.aff key ∧ find key (R.hD L) = some b ∧ tag allS (L.set k x) key R.n = tag allS L key R.n) := by
    intro key b hf
    by_cases hx : x.aff key
    · obtain ⟨h1, h2⟩ := (hD key).2 hx
      unfold Rg.hD at hf
      rw [h1] at hf
      exact .inl ⟨hf, h2 (by simp [hf])⟩
    · obtain ⟨h1, h2⟩ := (hD key).1 hx
      unfold Rg.hD at hf ⊢
      rw [h1] at hf
      exact .inr ⟨hx, hf, h2⟩
  -- an elder key is none of this one's own
  have elder : ∀ key b, find key (R.hD L) = some b → ρ' key = ρ key := by
    intro key b hf
    refine hout key ?_
    rintro ⟨h1, h2⟩
    rcases vh_tag R.n hf with ⟨j, y, _, _, _, g4, g5⟩ | ⟨_, g2⟩
    · exact not_aff_new ha he hs.base hs.wf h1 h2 g4 (hjne j y g4) (hjk j y g4) (.inr (by simp [g5]))
    · have := (hs.base key b g2).1; have := N_base (R := R) k; omega
  have apart : ∀ key b, find key (R.hD L) = some b → ¬ x.aff key → ∀ i, b.live i → ∀ y o, ρ key i = some (y, o) → ¬ ∃ z ∈ x.W, ∃ c i' o', find z (R.hD L) = some c ∧ c.isRow = true ∧ c.live i' ∧ ρ z i' = some (y, o') := by
    rintro key b hf hx i hi y o hy ⟨z, hzW, c, i', o', hz1, hz2, hz4, hz3⟩
    have hne : key ≠ z := by rintro rfl; exact hx (.inl hzW)
    exact hs.sep z c hz1 hz2 key b hf hne i' i hz4 hi y o' y o hz3 hy rfl
  have wfl : WFL R (L.set k x) := by
    have hVset : ∀ j, R.anc j k = false → R.hV j (L.set k x) = R.hV j L := by
      intro j hj
      unfold Rg.hV
      have : ∀ m, vh (R.anc j) (L.set k x) m R.s0.H.h = vh (R.anc j) L m R.s0.H.h := by
        intro m
        induction m with
        | zero => rfl
        | succ m ih =>
          simp only [vh, ih]
          by_cases e : m = k
          · subst e; rw [hj]
          · rw [LM.set_ne _ _ e]
      exact this R.n
    have hkk : R.anc k k = false := by
      cases hb : R.anc k k with
      | false => rfl
      | true => have := ha.lt he k k hb; omega
    refine ⟨?_, ?_, ?_, ?_, ?_, ?_⟩
    · intro j y hj
      by_cases e : j = k
      · subst e; exact hkn
      · rw [LM.set_ne _ _ e] at hj; exact hs.wf.lt j y hj
    · intro j y hj
      by_cases e : j = k
      · subst e; rw [LM.set_at] at hj; cases hj; exact fun key b hb => (hup key b hb).1
      · rw [LM.set_ne _ _ e] at hj; exact hs.wf.updk j y hj
    · intro j y hj
      by_cases e : j = k
      · subst e; rw [LM.set_at] at hj; cases hj; exact hWF
      · rw [LM.set_ne _ _ e] at hj; exact hs.wf.wf j y hj
    · intro j y hj
      by_cases e : j = k
      · subst e; rw [LM.set_at] at hj; cases hj; rw [hVset _ hkk]; exact hF
      · rw [LM.set_ne _ _ e] at hj; rw [hVset _ (hjk j y hj)]; exact hs.wf.ff j y hj
    · intro j i hj hi
      by_cases e' : i = k
      · subst e'; rw [LM.set_at]; rfl
      · rw [LM.set_ne _ _ e']
        by_cases e : j = k
        · subst e; exact hanc i hi
        · rw [LM.set_ne _ _ e] at hj; exact hs.wf.down j i hj hi
    · intro i j y z hne hi hj hfr
      by_cases e : i = k
      · subst e
        rw [LM.set_at] at hi; cases hi
        have e' : j ≠ i := Ne.symm hne
        rw [LM.set_ne _ _ e'] at hj
        have := hcmp j z hj ⟨hfr.2, hfr.1⟩
        exact ⟨this.2, this.1⟩
      · rw [LM.set_ne _ _ e] at hi
        by_cases e' : j = k
        · subst e'
          rw [LM.set_at] at hj; cases hj
          exact hcmp i y hi hfr
        · rw [LM.set_ne _ _ e'] at hj
          exact hs.wf.cmp i j y z hne hi hj hfr
  refine ⟨hok, hs.up, hs.base, wfl, ?_, ?_, ?_, ?_, ?_, ?_, ?_⟩
  · intro key b hf
    rcases split key b hf with ⟨h1, h2⟩ | ⟨h1, h2, h3⟩
    · rw [h2]; exact (hup key b h1).2.2.1
    · rw [h3]
      have hsat := hs.sat key b h2
      have hkey : R.scO (tag allS L key R.n) key := by
        rcases vh_tag R.n h2 with ⟨j, y, g1, g2, g3, g4, g5⟩ | ⟨g1, g2⟩
        · rw [g1]
          rcases hs.wf.updk j y g4 key b g5 with h | h
          · obtain ⟨b2, hb2⟩ := Option.isSome_iff_exists.1 (hs.wf.ff j y g4 key (hs.wf.wf j y g4 key h))
            rcases origin ha he hs.base hs.wf j key b2 hb2 with h5 | ⟨i, h5, h6, h7⟩
            · refine ⟨?_, .inl h5⟩
              have := h5.1; have := N_base (R := R) j; omega
            · have := N_lt (R := R) (ha.lt he j i h5)
              exact ⟨by omega, .inr (.inl ⟨i, h5, h6, h7⟩)⟩
          · exact ⟨h.2, .inr (.inr h.1)⟩
        · rw [g1]; exact hs.base key b g2
      have := Blk.sat_ext hsat (agr _ key rfl) (fun _ h => h) hkey
      refine Blk.sat_world this fun i hi y o hy => ?_
      rw [elder key b h2] at hy
      exact hblk y (hs.bd key b h2 i hi y o hy) (apart key b h2 h1 i hi y o hy)
  · intro key b hf i hi y o hy
    rcases split key b hf with ⟨h1, _⟩ | ⟨_, h2, _⟩
    · exact (hup key b h1).2.2.2.1 i hi y o hy
    · rw [elder key b h2] at hy
      exact Nat.lt_of_lt_of_le (hs.bd key b h2 i hi y o hy) hsz
  · intro key b hf hr i hi y o hy
    rcases split key b hf with ⟨h1, _⟩ | ⟨_, h2, _⟩
    · rcases (hup key b h1).2.2.2.2 i hi y o hy with ⟨z, hzW, c, i', o', g1, g2, g4, g3⟩ | h
      · exact hs.may z c g1 g2 i' g4 y o' g3
      · exact .inr (Nat.le_trans hs.fr.size h)
    · rw [elder key b h2] at hy
      exact hs.may key b h2 hr i hi y o hy
  · intro key b hf hr key' b' hf' hne j i hj hi y o y' o' hy hy'
    rcases split key b hf with ⟨h1, _⟩ | ⟨hx, h2, _⟩ <;> rcases split key' b' hf' with ⟨h1', _⟩ | ⟨hx', h2', _⟩
    · exact hsepn key b h1 key' b' h1' hne j i hj hi y o y' o' hy hy'
    · rw [elder key' b' h2'] at hy'
      rcases (hup key b h1).2.2.2.2 j hj y o hy with ⟨z, hzW, c, i', o2, g1, g2, g4, g3⟩ | h
      · rintro rfl
        exact apart key' b' h2' hx' i hi y' o' hy' ⟨z, hzW, c, i', o2, g1, g2, g4, g3⟩
      · have := hs.bd key' b' h2' i hi y' o' hy'; omega
    · rw [elder key b h2] at hy
      rcases (hup key' b' h1').2.2.2.2 i hi y' o' hy' with ⟨z, hzW, c, i', o2, g1, g2, g4, g3⟩ | h
      · rintro rfl
        exact apart key b h2 hx j hj y' o hy ⟨z, hzW, c, i', o2, g1, g2, g4, g3⟩
      · have := hs.bd key b h2 j hj y o hy; omega
    · rw [elder key b h2] at hy
      rw [elder key' b' h2'] at hy'
      exact hs.sep key b h2 hr key' b' h2' hne j i hj hi y o y' o' hy hy'
  · cases hdk : R.dst k with
    | none => exact hs.defers
    | some d => exact hs.defers
  · cases hdk : R.dst k with
    | none => exact hs.size
    | some d => simp [Act.put, hs.size]
  · intro t ht
    by_cases hdt : R.dst k = some t
    · have hno' : ∀ j, k < j → R.dst j = some t → L j = none := by
        intro j hj hdj
        cases hL : L j with
        | none => rfl
        | some y => have := dsts_h hd hj hdt hdj; rw [hjk j y hL] at this; cases this
      rw [lastD_set_at hdt hno' R.n hkn]
      intro y hy
      rw [LM.set_at] at hy; cases hy
      rw [hdt]
      exact ⟨v, by simp [Act.put, hs.size, ht], hv⟩
    · rw [lastD_set_ne hdt]
      have hsl := hs.slots t ht
      have hput : ∀ u, a.tmps[t]? = some u → (a.put (R.dst k) v).tmps[t]? = some u := by
        intro u hu
        cases hdk : R.dst k with
        | none => exact hu
        | some d =>
          simp only [Act.put]
          rw [Array.getElem?_setIfInBounds_ne (fun e => hdt (by rw [hdk, e]))]
          exact hu
      cases hl : lastD R.dst L t R.n with
      | none =>
        rw [hl] at hsl
        intro sv hsv
        obtain ⟨u, hu, hi⟩ := hsl sv hsv
        exact ⟨u, hput u hu, hi.ext agb (fun _ h => h)⟩
      | some j =>
        rw [hl] at hsl
        intro y hy
        obtain ⟨g1, g2, g3⟩ := lastD_lt hl
        obtain ⟨y0, hy0⟩ := Option.isSome_iff_exists.1 g2
        rw [LM.set_ne _ _ (hjne j y0 hy0)] at hy
        obtain ⟨u, hu, hi⟩ := hsl y hy
        exact ⟨u, hput u hu, hi.ext (agj j y hy) (fun _ h => h)⟩
end
end Go.Proofs.Ytjpnpaboahbncaa.Sx
