/- A region that draws its order: one operation, in whatever order. -/
import Derived.Test.YtjpnpaboahbncaaSxDraw2
set_option linter.unusedVariables false
set_option linter.unusedSimpArgs false
namespace Go.Proofs.Ytjpnpaboahbncaa.Sx
open Go Go.RowKit

section
variable {R : Rg}

/-! ### The temporaries that an operation sees -/
theorem vt_is {A : Nat → Nat → Bool} {k : Nat} {L : LM Lf} {t : Nat} (hA : ∀ j, A k j = false → A j k = true → L j = none) : ∀ (os : List Oper) (j0 : Nat) (tm : List (Option SV)), (∀ i, os[i]? = R.ops[j0 + i]?) →
    (∀ sv, tm[t]? = some (some sv) → match lastD R.dst L t j0 with
      | some j => A k j = true ∧ ∃ x, L j = some x ∧ x.sv = sv
      | none => R.s0.tmps[t]? = some (some sv)) →
    ∀ sv, (vt A k L os j0 tm)[t]? = some (some sv) → match lastD R.dst L t (j0 + os.length) with
      | some j => A k j = true ∧ ∃ x, L j = some x ∧ x.sv = sv
      | none => R.s0.tmps[t]? = some (some sv)
  | [], j0, tm, _, h, sv, hv => by simpa using h sv hv
  | o :: os, j0, tm, ho, h, sv, hv => by
    have h0 : R.ops[j0]? = some o := by simpa using (ho 0).symm
    have hd : R.dst j0 = o.dst := by simp [Rg.dst, h0]
    have ih := vt_is (k := k) (L := L) (t := t) hA os (j0 + 1)
    simp only [vt] at hv
    have ho' : ∀ i, os[i]? = R.ops[j0 + 1 + i]? := fun i => by
      have := ho (i + 1)
      rw [show j0 + 1 + i = j0 + (i + 1) by omega, ← this, List.getElem?_cons_succ]
    rw [List.length_cons, show j0 + (os.length + 1) = j0 + 1 + os.length by omega]
    refine ih _ ho' ?_ sv hv
    intro sv' hsv
    cases hdst : o.dst with
    | none =>
      rw [hdst] at hsv
      have : lastD R.dst L t (j0 + 1) = lastD R.dst L t j0 := by simp only [lastD, hd, hdst]; rw [if_neg (by simp)]
      rw [this]; exact h sv' hsv
    | some d =>
      rw [hdst] at hsv
      simp only at hsv
      by_cases hdt : d = t
      · subst hdt
        cases h1 : A k j0 with
        | true =>
          rw [h1] at hsv
          simp only [List.getElem?_set, if_true] at hsv
          split at hsv
          · cases hL : L j0 with
            | none => rw [hL] at hsv; simp at hsv
            | some x =>
              rw [hL] at hsv
              simp at hsv
              have : lastD R.dst L d (j0 + 1) = some j0 := by simp only [lastD, hd, hdst, hL]; simp
              rw [this]
              exact ⟨h1, x, hL, hsv⟩
          · cases hsv
        | false =>
          rw [h1] at hsv
          cases h2 : A j0 k with
          | true =>
            rw [h2] at hsv
            have hn := hA j0 h1 h2
            have : lastD R.dst L d (j0 + 1) = lastD R.dst L d j0 := by simp only [lastD, hn]; rw [if_neg (by simp)]
            rw [this]; exact h sv' hsv
          | false =>
            rw [h2] at hsv
            simp only [List.getElem?_set, if_true] at hsv
            split at hsv
            · simp at hsv
            · cases hsv
      · have : lastD R.dst L t (j0 + 1) = lastD R.dst L t j0 := by simp only [lastD, hd, hdst]; rw [if_neg (by simp [hdt])]
        rw [this]
        refine h sv' ?_
        cases h1 : A k j0 with
        | true => rw [h1] at hsv; simp only [List.getElem?_set, if_neg hdt] at hsv; exact hsv
        | false =>
          rw [h1] at hsv
          cases h2 : A j0 k with
          | true => rw [h2] at hsv; exact hsv
          | false => rw [h2] at hsv; simp only [List.getElem?_set, if_neg hdt] at hsv; exact hsv
theorem vt_length {A : Nat → Nat → Bool} {k : Nat} {L : LM Lf} : ∀ (os : List Oper) (j0 : Nat) (tm : List (Option SV)), (vt A k L os j0 tm).length = tm.length
  | [], _, _ => rfl
  | o :: os, j0, tm => by
    simp only [vt]
    rw [vt_length os]
    split
    · rfl
    · split <;> simp

/-! ### The state after one more operation -/
theorem lastD_lt {dst : Nat → Option Tmp} {L : LM Lf} {t : Nat} : ∀ {m j : Nat}, lastD dst L t m = some j → j < m ∧ (L j).isSome ∧ dst j = some t
  | 0, j, h => by cases h
  | m + 1, j, h => by
    simp only [lastD] at h
    split at h
    · rename_i hc; cases h; exact ⟨Nat.lt_succ_self _, hc⟩
    · have := lastD_lt h; exact ⟨Nat.lt_succ_of_lt this.1, this.2⟩
theorem lastD_set_ne {dst : Nat → Option Tmp} {L : LM Lf} {t k : Nat} {x : Lf} (h : dst k ≠ some t) : ∀ m, lastD dst (L.set k x) t m = lastD dst L t m
  | 0 => rfl
  | m + 1 => by
    simp only [lastD, lastD_set_ne h m]
    by_cases e : m = k
    · subst e; simp [h]
    · rw [LM.set_ne _ _ e]
theorem lastD_set_at {dst : Nat → Option Tmp} {L : LM Lf} {t k : Nat} {x : Lf} (h : dst k = some t) (hno : ∀ j, k < j → dst j = some t → L j = none) : ∀ m, k < m → lastD dst (L.set k x) t m = some k
  | 0, hk => by omega
  | m + 1, hk => by
    simp only [lastD]
    by_cases e : m = k
    · subst e; rw [LM.set_at]; simp [h]
    · rw [LM.set_ne _ _ e]
      by_cases hd : dst m = some t
      · rw [hno m (by omega) hd]; simp; exact lastD_set_at h hno m (by omega)
      · rw [if_neg (by simp [hd])]; exact lastD_set_at h hno m (by omega)

/-- The heap after one more operation. -/
theorem hD_set {L : LM Lf} {k : Nat} {x : Lf} {h : HL} (hk : L k = none) (key : Nat) (hno : x.aff key → ∀ j y, k < j → L j = some y → ¬ y.aff key) : ∀ m,
    (m ≤ k → find key (vh allS (L.set k x) m h) = find key (vh allS L m h) ∧ tag allS (L.set k x) key m = tag allS L key m) ∧
    (k < m → (¬ x.aff key → find key (vh allS (L.set k x) m h) = find key (vh allS L m h) ∧ tag allS (L.set k x) key m = tag allS L key m) ∧
      (x.aff key → find key (vh allS (L.set k x) m h) = find key x.upd ∧ ((find key x.upd).isSome → tag allS (L.set k x) key m = some k)))
  | 0 => ⟨fun _ => ⟨rfl, rfl⟩, fun h => by omega⟩
  | m + 1 => by
    obtain ⟨ih1, ih2⟩ := hD_set (h := h) hk key hno m
    have st : ∀ (L : LM Lf), find key (vh allS L (m + 1) h) = (match L m with | some y => find key (y.upd ++ dropAll y.W (vh allS L m h)) | none => find key (vh allS L m h)) := fun L => by
      simp only [vh, allS]; cases L m <;> rfl
    have tt : ∀ (L : LM Lf), tag allS L key (m + 1) = (match L m with | some y => if (find key y.upd).isSome then some m else tag allS L key m | none => tag allS L key m) := fun L => by
      simp only [tag, allS]; cases L m <;> rfl
    constructor
    · intro hm
      have hmk : m ≠ k := by omega
      obtain ⟨a1, a2⟩ := ih1 (by omega)
      rw [st, st, tt, tt, LM.set_ne _ _ hmk]
      cases L m with
      | none => exact ⟨a1, a2⟩
      | some y => simp only [find_step, a1, a2]; exact ⟨trivial, trivial⟩
    · intro hm
      by_cases hmk : m = k
      · subst hmk
        obtain ⟨a1, a2⟩ := ih1 (Nat.le_refl _)
        rw [st, st, tt, tt, LM.set_at, hk]
        simp only
        constructor
        · intro hn
          refine ⟨by rw [find_not_aff _ hn, a1], ?_⟩
          rw [if_neg (fun hh => hn (.inr hh))]; exact a2
        · intro ha
          refine ⟨?_, fun hs => by rw [if_pos hs]⟩
          rw [find_step]
          cases hu : find key x.upd with
          | some b => rfl
          | none =>
            have : key ∈ x.W := ha.resolve_right (by simp [hu])
            simp [this]
      · obtain ⟨b1, b2⟩ := ih2 (by omega)
        rw [st, st, tt, tt, LM.set_ne _ _ hmk]
        cases hL : L m with
        | none => exact ⟨b1, b2⟩
        | some y =>
          simp only
          constructor
          · intro hn
            obtain ⟨c1, c2⟩ := b1 hn
            simp only [find_step, c1, c2]; exact ⟨trivial, trivial⟩
          · intro hx
            have hy := hno hx m y (by omega) hL
            obtain ⟨c1, c2⟩ := b2 hx
            rw [find_not_aff _ hy]
            refine ⟨c1, fun hs => ?_⟩
            rw [if_neg (fun hh => hy (.inr hh))]; exact c2 hs
end
end Go.Proofs.Ytjpnpaboahbncaa.Sx
