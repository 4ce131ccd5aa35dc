/- TakeAll, the plain law: what is claimed by one Take after another. -/
import Derived.Test.YtomaagmleafjeaaMMdTaM
set_option linter.unusedVariables false
set_option linter.unusedSimpArgs false
set_option linter.unusedVariables false
set_option linter.unusedSimpArgs false
set_option maxRecDepth 100000
namespace Go.Proofs.Ytomaagmleafjeaa.Md
open Go Go.RowKit Sx Cn Dc Ck Vc
theorem pk_cutn {ls : Nat → Nat} {S : Nat → Nat → Int} {p i : Nat} (h : p + i < tot ls) : pk (cut ls p) S i = pk ls S (p + i) := by
  unfold tot at h
  unfold pk
  have e2 : cut ls p 2 = ls 2 - p := if_pos rfl
  have e1 : cut ls p 1 = ls 1 - (p - ls 2) := rfl
  have e0 : cut ls p 0 = ls 0 - (p - (ls 2 + ls 1)) := rfl
  rw [e2, e1, e0]
  by_cases c1 : p + i < ls 2
  · rw [if_pos (by omega), if_pos c1, show ls 2 - p - 1 - i = ls 2 - 1 - (p + i) by omega]
  · rw [if_neg (by omega), if_neg c1]
    by_cases c2 : p + i < ls 2 + ls 1
    · rw [if_pos (by omega), if_pos c2, show ls 1 - (p - ls 2) - 1 - (i - (ls 2 - p)) = ls 1 - 1 - (p + i - ls 2) by omega]
    · rw [if_neg (by omega), if_neg c2, show ls 0 - (p - (ls 2 + ls 1)) - 1 - (i - (ls 2 - p + (ls 1 - (p - ls 2)))) = ls 0 - 1 - (p + i - (ls 2 + ls 1)) by omega]
theorem cut_cutn {ls : Nat → Nat} {p i u : Nat} (hu : u < 3) : cut (cut ls p) i u = cut ls (p + i) u := by
  have e2 : cut ls p 2 = ls 2 - p := if_pos rfl
  have e1 : cut ls p 1 = ls 1 - (p - ls 2) := rfl
  have e0 : cut ls p 0 = ls 0 - (p - (ls 2 + ls 1)) := rfl
  unfold cut at e2 e1 e0 ⊢
  match u, hu with
  | 0, _ => simp only [e2, e1, e0]; simp; omega
  | 1, _ => simp only [e2, e1, e0]; simp; omega
  | 2, _ => simp only [e2, e1, e0]; simp; omega
theorem tot_cutn {ls : Nat → Nat} {p : Nat} : tot (cut ls p) = tot ls - p := by
  have e2 : cut ls p 2 = ls 2 - p := if_pos rfl
  have e1 : cut ls p 1 = ls 1 - (p - ls 2) := rfl
  have e0 : cut ls p 0 = ls 0 - (p - (ls 2 + ls 1)) := rfl
  unfold tot at *
  rw [e2, e1, e0]
  omega
/-- Task t is among the first p entries that are popped. -/
def clm (L : Nat → Nat) (S : Nat → Nat → Int) (p t : Nat) : Prop := ∃ i, i < p ∧ (pk L S i).toNat = t
/-- What stands when p entries are gone: the deques, the states, what was claimed. -/
structure TL (bd : Int) (L : Nat → Nat) (S : Nat → Nat → Int) (sta : Nat → Int) (p : Nat) (m : Mm) (cl : Nat → Int) : Prop where
  ti : ∃ sta', TI bd m (cut L p) S sta' ∧ (∀ t, sta' t = 1 ↔ sta t = 1 ∧ ¬ clm L S p t)
  one : ∀ t, t < 9 → clm L S p t → sta t = 1 → cl t = 1
  zero : ∀ t, t < 9 → ¬ (clm L S p t ∧ sta t = 1) → cl t = 0
theorem TL_0 {bd : Int} {L : Nat → Nat} {S : Nat → Nat → Int} {sta : Nat → Int} {m : Mm} (h : TI bd m L S sta) : TL bd L S sta 0 m fun _ => 0 :=
  ⟨⟨sta, h.ls fun u hu => cut_0 hu, fun t => ⟨fun h1 => ⟨h1, fun ⟨i, hi, _⟩ => absurd hi (Nat.not_lt_zero _)⟩, fun h1 => h1.1⟩⟩, fun t _ ⟨i, hi, _⟩ => absurd hi (Nat.not_lt_zero _), fun t _ _ => rfl⟩
/-- One Take more. -/
theorem TL_take {bd : Int} {L : Nat → Nat} {S : Nat → Nat → Int} {sta : Nat → Int} {p : Nat} {m : Mm} {cl : Nat → Int} {l : El} {st : Nat → Bool} (h : TL bd L S sta p m cl) (hp : p ≤ tot L) (hT : tot L ≤ 16) :
    ∃ R, taR yT 83 0 9 600 m l st = some R ∧ R.r.l.n ≤ l.n + tot L ∧
      ((R.r.c = 2 ∧ (∀ t, t < 9 → (∃ i, i < tot L ∧ (pk L S i).toNat = t) → sta t = 1 → cl t = 1) ∧ (∀ t, t < 9 → ¬ ((∃ i, i < tot L ∧ (pk L S i).toNat = t) ∧ sta t = 1) → cl t = 0) ∧ R.r.m.g 7 = 0 ∧ ∃ sta', TI bd R.r.m (fun _ => 0) S sta') ∨
       (R.r.c = 1 ∧ 0 ≤ R.r.v ∧ R.r.v < 9 ∧ ∃ p', p < p' ∧ p' ≤ tot L ∧ R.r.l.n + p ≤ l.n + p' ∧ TL bd L S sta p' R.r.m fun t => if t = R.r.v.toNat then cl R.r.v.toNat + 1 else cl t)) := by
  obtain ⟨⟨sta', hti, hst⟩, h1, h0⟩ := h
  obtain ⟨R, r1, r2, r3⟩ := ta_main (tot (cut L p)) (k := 0) (F := 600) (l := l) (st := st) rfl hti (by rw [tot_cutn]; omega)
  rw [tot_cutn] at r3
  have hin : ∀ j, p + j < tot L → (pk L S (p + j)).toNat < 9 := fun j hj => by
    have := pk_rng hti (i := j) (by rw [tot_cutn]; omega)
    rw [pk_cutn hj] at this
    omega
  refine ⟨R, r1, ?_⟩
  rcases r3 with ⟨q1, q2, q3, q4, q5, q6⟩ | ⟨q1, j, q2, q3, q4, q5, q6, q7, q8⟩
  · refine ⟨by omega, .inl ⟨q1, ?_, ?_, q6, sta', q5.ls fun u hu => ?_⟩⟩
    · rintro t ht ⟨i, hi, he⟩ hs
      by_cases c : clm L S p t
      · exact h1 t ht c hs
      · have hip : ¬ i < p := fun hip => c ⟨i, hip, he⟩
        have := q2 (i - p) (by omega)
        rw [pk_cutn (by omega), show p + (i - p) = i by omega, he] at this
        exact absurd ((hst t).2 ⟨hs, c⟩) this
    · intro t ht hn
      exact h0 t ht fun ⟨⟨i, hi, he⟩, hs⟩ => hn ⟨⟨i, by omega, he⟩, hs⟩
    · rw [cut_cutn hu, show p + (tot L - p) = tot L by omega]
      unfold cut tot
      split
      · omega
      · split
        · omega
        · omega
  · have hpj : p + j < tot L := by omega
    rw [pk_cutn hpj] at q4 q5 q8
    have hv := hin j hpj
    have hvr := pk_rng hti (i := j) (by rw [tot_cutn]; omega)
    rw [pk_cutn hpj, ← q5] at hvr
    obtain ⟨s1, s2⟩ := (hst _).1 q4
    have key : ∀ t, sta t = 1 → (clm L S (p + j + 1) t ↔ clm L S p t ∨ t = (pk L S (p + j)).toNat) := by
      intro t hs
      constructor
      · rintro ⟨i, hi, he⟩
        by_cases c : i < p
        · exact .inl ⟨i, c, he⟩
        · by_cases c2 : i = p + j
          · subst c2
            exact .inr he.symm
          · have := q3 (i - p) (by omega)
            rw [pk_cutn (by omega), show p + (i - p) = i by omega, he] at this
            exact .inl (Classical.byContradiction fun cc => this ((hst t).2 ⟨hs, cc⟩))
      · rintro (⟨i, hi, he⟩ | he)
        · exact ⟨i, by omega, he⟩
        · exact ⟨p + j, by omega, he.symm⟩
    refine ⟨by omega, .inr ⟨q1, hvr.1, hvr.2, p + j + 1, by omega, by omega, by omega, ⟨_, q8.ls fun u hu => by rw [cut_cutn hu]; rfl, fun t => ?_⟩, ?_, ?_⟩⟩
    · by_cases c : t = (pk L S (p + j)).toNat
      · rw [if_pos c]
        exact ⟨fun h => absurd h (by decide), fun h => absurd ⟨p + j, by omega, c.symm⟩ h.2⟩
      · rw [if_neg c, hst t]
        constructor
        · rintro ⟨a, b⟩
          exact ⟨a, fun q => ((key t a).1 q).elim b c⟩
        · rintro ⟨a, b⟩
          exact ⟨a, fun q => b ((key t a).2 (.inl q))⟩
    · intro t ht hc hs
      rw [q5]
      by_cases c : t = (pk L S (p + j)).toNat
      · rw [if_pos c, h0 _ hv fun q => s2 q.1]
        rfl
      · rw [if_neg c]
        exact h1 t ht (((key t hs).1 hc).resolve_right c) hs
    · intro t ht hc
      rw [q5]
      by_cases c : t = (pk L S (p + j)).toNat
      · subst c
        exact absurd ⟨⟨p + j, by omega, rfl⟩, s1⟩ hc
      · rw [if_neg c]
        exact h0 t ht fun q => hc ⟨(key t q.2).2 (.inl q.1), q.2⟩
/-! ### What was laid -/
/-- How many of the first i entries have level v. -/
def cntE (g : Nat → Int) : Nat → Nat → Nat
  | 0, _ => 0
  | i + 1, v => cntE g i v + if v = elv g i then 1 else 0
/-- One of the first i entries that were accepted has task t. -/
def hasE (g : Nat → Int) (t : Int) : Nat → Prop
  | 0 => False
  | i + 1 => hasE g t i ∨ (cntE g (i + 1) (elv g i) ≤ 8 ∧ tkT g i = t)
theorem lsE_len {g : Nat → Int} : ∀ {i v : Nat}, (lsE g i).1 v = min 8 (cntE g i v)
  | 0, v => rfl
  | i + 1, v => by
    have h1 := @lsE_len g i v
    have h2 := @lsE_len g i (elv g i)
    show (if (lsE g i).1 (elv g i) = 8 then lsE g i else _).1 v = min 8 (cntE g i v + if v = elv g i then 1 else 0)
    by_cases c : (lsE g i).1 (elv g i) = 8
    · rw [if_pos c, h1]
      by_cases d : v = elv g i
      · subst d
        rw [if_pos rfl]
        omega
      · rw [if_neg d]
        rfl
    · rw [if_neg c]
      show (if v = elv g i then (lsE g i).1 (elv g i) + 1 else (lsE g i).1 v) = _
      by_cases d : v = elv g i
      · subst d
        rw [if_pos rfl, if_pos rfl]
        omega
      · rw [if_neg d, if_neg d, h1]
        rfl
theorem hasE_iff {g : Nat → Int} {t : Int} : ∀ {i : Nat}, (∀ k, k < i → elv g k < 3) → (hasE g t i ↔ ∃ v j, v < 3 ∧ j < (lsE g i).1 v ∧ (lsE g i).2 v j = t)
  | 0, _ => ⟨fun h => h.elim, fun ⟨v, j, _, hj, _⟩ => absurd hj (Nat.not_lt_zero _)⟩
  | i + 1, he => by
    have ih := @hasE_iff g t i fun k hk => he k (by omega)
    have hl := @lsE_len g i (elv g i)
    have hc : cntE g (i + 1) (elv g i) = cntE g i (elv g i) + 1 := by
      show cntE g i (elv g i) + (if elv g i = elv g i then 1 else 0) = _
      rw [if_pos rfl]
    have h3 := he i (by omega)
    show hasE g t i ∨ (cntE g (i + 1) (elv g i) ≤ 8 ∧ tkT g i = t) ↔ ∃ v j, v < 3 ∧ j < (if (lsE g i).1 (elv g i) = 8 then lsE g i else _).1 v ∧ (if (lsE g i).1 (elv g i) = 8 then lsE g i else _).2 v j = t
    by_cases c : (lsE g i).1 (elv g i) = 8
    · rw [if_pos c, ih]
      exact ⟨fun h => h.elim id fun h => absurd h.1 (by omega), .inl⟩
    · rw [if_neg c, ih]
      dsimp only
      constructor
      · rintro (⟨v, j, h1, h2, h4⟩ | ⟨h1, h2⟩)
        · refine ⟨v, j, h1, ?_, ?_⟩
          · split
            · rename_i e
              subst e
              omega
            · exact h2
          · rw [if_neg]
            · exact h4
            · rintro ⟨rfl, rfl⟩
              exact absurd h2 (Nat.lt_irrefl _)
        · refine ⟨elv g i, (lsE g i).1 (elv g i), h3, ?_, ?_⟩
          · rw [if_pos rfl]
            omega
          · rw [if_pos ⟨rfl, rfl⟩]
            exact h2
      · rintro ⟨v, j, h1, h2, h4⟩
        by_cases d : v = elv g i ∧ j = (lsE g i).1 (elv g i)
        · rw [if_pos d] at h4
          exact .inr ⟨by omega, h4⟩
        · rw [if_neg d] at h4
          refine .inl ⟨v, j, h1, ?_, h4⟩
          split at h2
          · rename_i e
            subst e
            have : ¬ j = (lsE g i).1 (elv g i) := fun q => d ⟨rfl, q⟩
            omega
          · exact h2
/-- The entries in the order of popping are all that lie in the deques. -/
theorem pk_all {L : Nat → Nat} {S : Nat → Nat → Int} {t : Int} : (∃ i, i < tot L ∧ pk L S i = t) ↔ ∃ v j, v < 3 ∧ j < L v ∧ S v j = t := by
  unfold tot pk
  constructor
  · rintro ⟨i, hi, he⟩
    by_cases c1 : i < L 2
    · rw [if_pos c1] at he
      exact ⟨2, _, by decide, by omega, he⟩
    · rw [if_neg c1] at he
      by_cases c2 : i < L 2 + L 1
      · rw [if_pos c2] at he
        exact ⟨1, _, by decide, by omega, he⟩
      · rw [if_neg c2] at he
        exact ⟨0, _, by decide, by omega, he⟩
  · rintro ⟨v, j, hv, hj, he⟩
    match v, hv with
    | 2, _ => exact ⟨L 2 - 1 - j, by omega, by rw [if_pos (by omega), show L 2 - 1 - (L 2 - 1 - j) = j by omega]; exact he⟩
    | 1, _ => exact ⟨L 2 + (L 1 - 1 - j), by omega, by rw [if_neg (by omega), if_pos (by omega), show L 1 - 1 - (L 2 + (L 1 - 1 - j) - L 2) = j by omega]; exact he⟩
    | 0, _ => exact ⟨L 2 + L 1 + (L 0 - 1 - j), by omega, by rw [if_neg (by omega), if_neg (by omega), show L 0 - 1 - (L 2 + L 1 + (L 0 - 1 - j) - (L 2 + L 1)) = j by omega]; exact he⟩
end Go.Proofs.Ytomaagmleafjeaa.Md
