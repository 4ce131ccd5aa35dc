/- A region that draws its order: the soundness. -/
import Derived.Test.YtjpnpaboahbncaaSxDraw
set_option linter.unusedVariables false
set_option linter.unusedSimpArgs false
namespace Go.Proofs.Ytjpnpaboahbncaa.Sx
open Go Go.RowKit

/-! ### Looking a key up -/
def Lf.aff (x : Lf) (key : Nat) : Prop := key ∈ x.W ∨ (find key x.upd).isSome
theorem find_step (x : Lf) (key : Nat) (h : HL) : find key (x.upd ++ dropAll x.W h) = (find key x.upd).or (if key ∈ x.W then none else find key h) := by
  rw [find_append, find_dropAll]
theorem find_not_aff {x : Lf} {key : Nat} (h : HL) (hn : ¬ x.aff key) : find key (x.upd ++ dropAll x.W h) = find key h := by
  rw [find_step, if_neg (fun hh => hn (.inl hh))]
  cases hf : find key x.upd with
  | none => rfl
  | some b => exact absurd (.inr (by simp [hf])) hn

def tag (sel : Nat → Bool) (L : LM Lf) (key : Nat) : Nat → Option Nat
  | 0 => none
  | j + 1 => match sel j, L j with
    | true, some x => if (find key x.upd).isSome then some j else tag sel L key j
    | _, _ => tag sel L key j

theorem vh_congr {s1 s2 : Nat → Bool} {L1 L2 : LM Lf} {key : Nat} {h : HL} : ∀ (m : Nat), (∀ j, j < m → (s1 j = s2 j ∧ L1 j = L2 j) ∨ ((∀ x, s1 j = true → L1 j = some x → ¬ x.aff key) ∧ (∀ x, s2 j = true → L2 j = some x → ¬ x.aff key))) →
    find key (vh s1 L1 m h) = find key (vh s2 L2 m h) ∧ tag s1 L1 key m = tag s2 L2 key m
  | 0, _ => ⟨rfl, rfl⟩
  | m + 1, hyp => by
    have ih := vh_congr (h := h) m (fun j hj => hyp j (Nat.lt_succ_of_lt hj))
    rcases hyp m (Nat.lt_succ_self m) with ⟨e1, e2⟩ | ⟨h1, h2⟩
    · simp only [vh, tag, e1, e2]
      cases s2 m with
      | false => exact ih
      | true =>
        cases L2 m with
        | none => exact ih
        | some x => simp only [find_step, ih.1, ih.2]; exact ⟨trivial, trivial⟩
    · have g : ∀ (s : Nat → Bool) (L : LM Lf), (∀ x, s m = true → L m = some x → ¬ x.aff key) → find key (vh s L (m + 1) h) = find key (vh s L m h) ∧ tag s L key (m + 1) = tag s L key m := by
        intro s L hs
        simp only [vh, tag]
        cases hsm : s m with
        | false => exact ⟨rfl, rfl⟩
        | true =>
          cases hLm : L m with
          | none => exact ⟨rfl, rfl⟩
          | some x =>
            have hx := hs x hsm hLm
            refine ⟨find_not_aff _ hx, ?_⟩
            exact if_neg (fun hh => hx (.inr hh))
      rw [(g s1 L1 h1).1, (g s2 L2 h2).1, (g s1 L1 h1).2, (g s2 L2 h2).2]
      exact ih

theorem vh_tag {sel : Nat → Bool} {L : LM Lf} {key : Nat} {h : HL} {b : Blk} : ∀ (m : Nat), find key (vh sel L m h) = some b →
    (∃ j x, tag sel L key m = some j ∧ j < m ∧ sel j = true ∧ L j = some x ∧ find key x.upd = some b) ∨ (tag sel L key m = none ∧ find key h = some b)
  | 0, hf => .inr ⟨rfl, hf⟩
  | m + 1, hf => by
    have go : find key (vh sel L m h) = some b → tag sel L key (m + 1) = tag sel L key m → (∃ j x, tag sel L key (m + 1) = some j ∧ j < m + 1 ∧ sel j = true ∧ L j = some x ∧ find key x.upd = some b) ∨ (tag sel L key (m + 1) = none ∧ find key h = some b) := by
      intro h1 h2
      rw [h2]
      rcases vh_tag m h1 with ⟨j, x, g1, g2, g3⟩ | g
      · exact .inl ⟨j, x, g1, Nat.lt_succ_of_lt g2, g3⟩
      · exact .inr g
    simp only [vh] at hf
    cases hs : sel m with
    | false => rw [hs] at hf; exact go hf (by simp [tag, hs])
    | true =>
      rw [hs] at hf
      cases hL : L m with
      | none => rw [hL] at hf; exact go hf (by simp [tag, hs, hL])
      | some x =>
        rw [hL] at hf
        simp only [find_step] at hf
        cases hu : find key x.upd with
        | some b' =>
          rw [hu] at hf
          simp at hf; subst hf
          exact .inl ⟨m, x, by simp [tag, hs, hL, hu], Nat.lt_succ_self m, hs, hL, hu⟩
        | none =>
          rw [hu] at hf
          simp only [Option.none_or] at hf
          split at hf
          · cases hf
          · exact go hf (by simp [tag, hs, hL, hu])

theorem tag_lt {sel : Nat → Bool} {L : LM Lf} {key : Nat} : ∀ {m j : Nat}, tag sel L key m = some j → j < m ∧ sel j = true ∧ (L j).isSome
  | 0, j, h => by cases h
  | m + 1, j, h => by
    simp only [tag] at h
    split at h
    · rename_i x h1 h2
      split at h
      · cases h; exact ⟨Nat.lt_succ_self _, h1, by simp [h2]⟩
      · have := tag_lt h; exact ⟨Nat.lt_succ_of_lt this.1, this.2⟩
    · have := tag_lt h; exact ⟨Nat.lt_succ_of_lt this.1, this.2⟩

/-! ### What has been done -/
section
variable (R : Rg)
def Rg.n : Nat := R.ops.length
def allS : Nat → Bool := fun _ => true
def Rg.dst (j : Nat) : Option Tmp := (R.ops[j]?).bind (·.dst)
def Rg.hD (L : LM Lf) : HL := vh allS L R.n R.s0.H.h
def Rg.hV (k : Nat) (L : LM Lf) : HL := vh (R.anc k) L R.n R.s0.H.h
def Rg.scO : Option Nat → Nat → Prop
  | none => R.s0.H.sc
  | some j => R.scope j
def lastD (dst : Nat → Option Tmp) (L : LM Lf) (t : Nat) : Nat → Option Nat
  | 0 => none
  | j + 1 => if (L j).isSome ∧ dst j = some t then some j else lastD dst L t j
def Free (k j : Nat) : Prop := R.anc k j = false ∧ R.anc j k = false
def Apart (x y : Lf) : Prop := (∀ key ∈ x.W, key ∉ y.F) ∧ (∀ key ∈ y.W, key ∉ x.F)

structure WFL (L : LM Lf) : Prop where
  lt : ∀ j x, L j = some x → j < R.n
  updk : ∀ j x, L j = some x → ∀ key b, find key x.upd = some b → key ∈ x.W ∨ (R.N j ≤ key ∧ key < R.N j + R.S)
  wf : ∀ j x, L j = some x → ∀ key ∈ x.W, key ∈ x.F
  ff : ∀ j x, L j = some x → ∀ key ∈ x.F, (find key (R.hV j L)).isSome
  down : ∀ j i, (L j).isSome → R.anc j i = true → (L i).isSome
  cmp : ∀ i j x y, i ≠ j → L i = some x → L j = some y → Free R i j → Apart x y

structure SatR (φ : Fr) (ρ : Rho) (L : LM Lf) (a : Act) (w : World) : Prop where
  fr : φ.ok w
  up : ∀ x, R.s0.H.nxt ≤ x → R.s0.H.D x
  base : ∀ key b, find key R.s0.H.h = some b → R.s0.H.sc key
  wf : WFL R L
  sat : ∀ key b, find key (R.hD L) = some b → b.sat (R.scO (tag allS L key R.n)) ρ key w
  bd : ∀ key b, find key (R.hD L) = some b → ∀ i, b.live i → ∀ y o, ρ key i = some (y, o) → y < w.heap.size
  may : ∀ key b, find key (R.hD L) = some b → b.isRow = true → ∀ i, b.live i → ∀ y o, ρ key i = some (y, o) → φ.may y
  sep : ∀ key b, find key (R.hD L) = some b → b.isRow = true → ∀ key' b', find key' (R.hD L) = some b' → key' ≠ key → ∀ j i, b.live j → b'.live i → ∀ y o y' o', ρ key j = some (y, o) → ρ key' i = some (y', o') → y' ≠ y
  defers : a.defers = []
  size : a.tmps.size = R.s0.tmps.length
  slots : ∀ t, t < R.s0.tmps.length → match lastD R.dst L t R.n with
    | some j => ∀ x, L j = some x → ∃ v, a.tmps[t]? = some v ∧ SIs (R.scope j) ρ x.sv v
    | none => ∀ sv, R.s0.tmps[t]? = some (some sv) → ∃ v, a.tmps[t]? = some v ∧ SIs R.s0.H.sc ρ sv v

variable {R}
theorem N_lt {i j : Nat} (h : i < j) : R.N i + R.S ≤ R.N j := by
  unfold Rg.N
  have : (i + 1) * R.S ≤ j * R.S := Nat.mul_le_mul_right _ h
  rw [Nat.add_mul, Nat.one_mul] at this
  omega
theorem N_base (j : Nat) : R.s0.H.nxt ≤ R.N j := Nat.le_add_right _ _
theorem N_inj {i j x : Nat} (h1 : R.N i ≤ x) (h2 : x < R.N i + R.S) (h3 : R.N j ≤ x) (h4 : x < R.N j + R.S) : i = j := by
  rcases Nat.lt_trichotomy i j with h | h | h
  · have := N_lt (R := R) h; omega
  · exact h
  · have := N_lt (R := R) h; omega

/-- Where a key that an operation sees comes from. -/
theorem origin (ha : AncOK R.ops R.anc) (he : edgesOK R.ops 0 = true) {L : LM Lf} (hb : ∀ key b, find key R.s0.H.h = some b → R.s0.H.sc key) (hw : WFL R L) :
    ∀ (k key : Nat) (b : Blk), find key (R.hV k L) = some b → R.s0.H.sc key ∨ ∃ j, R.anc k j = true ∧ R.N j ≤ key ∧ key < R.N j + R.S := by
  intro k
  induction k using Nat.strongRecOn with
  | _ k ih =>
    intro key b hf
    rcases vh_tag R.n hf with ⟨j, x, _, _, h1, h2, h3⟩ | ⟨_, h⟩
    · rcases hw.updk j x h2 key b h3 with h4 | h4
      · have := hw.ff j x h2 key (hw.wf j x h2 key h4)
        obtain ⟨b', hb'⟩ := Option.isSome_iff_exists.1 this
        rcases ih j (ha.lt he k j h1) key b' hb' with h5 | ⟨i, h5, h6⟩
        · exact .inl h5
        · exact .inr ⟨i, ha.trans he k j i h1 h5, h6⟩
      · exact .inr ⟨j, h1, h4⟩
    · exact .inl (hb key b h)

/-- Nobody but a forerunner touches what an operation sees and needs. -/
theorem not_aff (ha : AncOK R.ops R.anc) (he : edgesOK R.ops 0 = true) {L : LM Lf} (hb : ∀ key b, find key R.s0.H.h = some b → R.s0.H.sc key) (hw : WFL R L) {k key : Nat} {b : Blk} (hf : find key (R.hV k L) = some b)
    {j : Nat} {y : Lf} (hj : L j = some y) (hjk : R.anc k j = false) (hc : key ∉ y.W) : ¬ y.aff key := by
  rintro (h | h)
  · exact hc h
  · obtain ⟨c, hc'⟩ := Option.isSome_iff_exists.1 h
    rcases hw.updk j y hj key c hc' with h1 | ⟨h1, h2⟩
    · exact hc h1
    · rcases origin ha he hb hw k key b hf with h3 | ⟨i, h3, h4, h5⟩
      · have := h3.1; have := N_base (R := R) j; omega
      · have := N_inj h4 h5 h1 h2
        subst this
        rw [hjk] at h3; cases h3

/-- A new key of an operation is nobody else's. -/
theorem not_aff_new (ha : AncOK R.ops R.anc) (he : edgesOK R.ops 0 = true) {L : LM Lf} (hb : ∀ key b, find key R.s0.H.h = some b → R.s0.H.sc key) (hw : WFL R L) {k key : Nat} (h1 : R.N k ≤ key) (h2 : key < R.N k + R.S)
    {j : Nat} {y : Lf} (hj : L j = some y) (hne : j ≠ k) (hjk : R.anc j k = false) : ¬ y.aff key := by
  have hW : key ∉ y.W := by
    intro h
    obtain ⟨b, hb'⟩ := Option.isSome_iff_exists.1 (hw.ff j y hj key (hw.wf j y hj key h))
    rcases origin ha he hb hw j key b hb' with h3 | ⟨i, h3, h4, h5⟩
    · have := h3.1; have := N_base (R := R) k; omega
    · have := N_inj h4 h5 h1 h2
      subst this
      rw [hjk] at h3; cases h3
  rintro (h | h)
  · exact hW h
  · obtain ⟨c, hc'⟩ := Option.isSome_iff_exists.1 h
    rcases hw.updk j y hj key c hc' with h3 | ⟨h3, h4⟩
    · exact hW h3
    · exact hne (N_inj h3 h4 h1 h2)
end
end Go.Proofs.Ytjpnpaboahbncaa.Sx
