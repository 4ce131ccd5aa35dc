/- LevelsStacks, the plain law: the deques of a worker alone are stacks. -/
import Derived.Test.YtomaagmleafjeaaMMdLbL
set_option linter.unusedVariables false
set_option linter.unusedSimpArgs false
set_option linter.unusedVariables false
set_option linter.unusedSimpArgs false
set_option maxRecDepth 100000
namespace Go.Proofs.Ytomaagmleafjeaa.Md
open Go Go.RowKit Sx Cn Dc Ck Vc
/-- The deques hold the stacks S, of the lengths ls. -/
structure Ws (y : Ly) (n L : Nat) (m : Mm) (ls : Nat → Nat) (S : Nat → Nat → Int) : Prop where
  wf : Wf y n L m
  len : ∀ v, v < L → m.g (Tq y v + 1).toNat = m.g (Tq y v).toNat + ls v
  val : ∀ v j, v < L → j < ls v → m.g (Tq y v + 2 + (m.g (Tq y v).toNat + j) % y.D).toNat = S v j
  rng : ∀ v j, v < L → j < ls v → 0 ≤ S v j ∧ S v j ≤ 9223372036854775807
theorem mod_ne {t D : Int} {i j : Nat} (hD : 0 < D) (h : i < j) (h2 : (j : Int) < i + D) : (t + i) % D ≠ (t + j) % D := fun e => by
  have h1 := Int.emod_emod_of_dvd (t + j - (t + i)) (Int.dvd_refl D)
  have h3 : (t + j - (t + i)) % D = 0 := by rw [Int.sub_emod, e, Int.sub_self, Int.zero_emod]
  rw [show t + (j : Int) - (t + i) = j - i by omega, Int.emod_eq_of_lt (by omega) (by omega)] at h3
  omega
section
variable {y : Ly} {n L : Nat} {m : Mm} {v : Nat} {M : Nat} {ls : Nat → Nat} {S : Nat → Nat → Int}
theorem pop_ws (h : Qp y n L) (hw : Ws y n L m ls S) (hM : 45 ≤ M) {val : Int} (hb : ∀ u, u < L → m.g (Tq y u + 1).toNat ≤ val) :
    ((popR y n 0 M m).c = 2 ∧ (∀ v, v < L → ls v = 0) ∧ Ws y n L (popR y n 0 M m).m ls S) ∨
    ((popR y n 0 M m).c = 1 ∧ ∃ v, v < L ∧ 0 < ls v ∧ (∀ u, v < u → u < L → ls u = 0) ∧ (popR y n 0 M m).v = S v (ls v - 1) ∧ Ws y n L (popR y n 0 M m).m (fun u => if u = v then ls v - 1 else ls u) S) := by
  have hwf := (pop_wf h hw.wf hM hb).1
  have hr := pop_res h hw.wf hM
  clear hb
  generalize popR y n 0 M m = R at *
  have hD := h.hD
  have hB := h.hbm
  rcases hr with ⟨r1, r2, r3⟩ | ⟨r1, v, hv, r3, r4, r5, B, r6, r7, e⟩
  · have eT : ∀ u, u < L → R.m.g (Tq y u).toNat = m.g (Tq y u).toNat ∧ R.m.g (Tq y u + 1).toNat = m.g (Tq y u + 1).toNat := fun u hu => by
      have b1 := h.beg (v := u)
      exact ⟨by rw [r3, if_neg (by omega)], by rw [r3, if_neg (by omega)]⟩
    have hz : ∀ v, v < L → ls v = 0 := fun v hv => by
      have := r2 v hv
      have := hw.len v hv
      omega
    refine .inl ⟨r1, hz, hwf, fun u hu => ?_, fun u j hu hj => ?_, hw.rng⟩
    · rw [(eT u hu).1, (eT u hu).2]
      exact hw.len u hu
    · have := hz u hu
      omega
  · have ht := hw.wf.t v hv
    have hl := hw.len v hv
    have hpos : 0 < ls v := by omega
    have hval := hw.val v (ls v - 1) hv (by omega)
    have hrng := hw.rng v (ls v - 1) hv (by omega)
    have q1 := Int.emod_nonneg (m.g (Tq y v).toNat + ((ls v - 1 : Nat) : Int)) (show y.D ≠ 0 by omega)
    have b2 := h.beg (v := v)
    have eT : ∀ u, u < L → R.m.g (Tq y u).toNat = if u = v ∧ ls v = 1 then m.g (Tq y v).toNat + 1 else m.g (Tq y u).toNat := fun u hu => by
      have b1 := h.beg (v := u)
      rw [e, if_neg (by omega)]
      by_cases hc : m.g (Tq y v).toNat + 1 < m.g (Tq y v + 1).toNat
      · rw [if_pos hc, if_pos hc, if_neg (by omega : ¬ (u = v ∧ ls v = 1))]
        rcases Nat.lt_trichotomy u v with c | c | c
        · have := h.lt c
          exact if_neg (by omega)
        · subst c
          exact if_neg (by omega)
        · have := h.lt c
          exact if_neg (by omega)
      · rw [if_neg hc, if_neg hc]
        rcases Nat.lt_trichotomy u v with c | c | c
        · have := h.lt c
          rw [if_neg (by omega : ¬ (u = v ∧ ls v = 1))]
          exact if_neg (by omega)
        · rw [if_pos (by omega : u = v ∧ ls v = 1)]
          subst c
          exact if_pos (by omega)
        · have := h.lt c
          rw [if_neg (by omega : ¬ (u = v ∧ ls v = 1))]
          exact if_neg (by omega)
    have eS : ∀ u, u < L → R.m.g (Tq y u + 1).toNat = if u = v ∧ 1 < ls v then m.g (Tq y v + 1).toNat - 1 else m.g (Tq y u + 1).toNat := fun u hu => by
      have b1 := h.beg (v := u)
      rw [e, if_neg (by omega)]
      by_cases hc : m.g (Tq y v).toNat + 1 < m.g (Tq y v + 1).toNat
      · rw [if_pos hc, if_pos hc]
        rcases Nat.lt_trichotomy u v with c | c | c
        · have := h.lt c
          rw [if_neg (by omega : ¬ (u = v ∧ 1 < ls v))]
          exact if_neg (by omega)
        · rw [if_pos (by omega : u = v ∧ 1 < ls v)]
          subst c
          exact if_pos (by omega)
        · have := h.lt c
          rw [if_neg (by omega : ¬ (u = v ∧ 1 < ls v))]
          exact if_neg (by omega)
      · rw [if_neg hc, if_neg hc, if_neg (by omega : ¬ (u = v ∧ 1 < ls v))]
        rcases Nat.lt_trichotomy u v with c | c | c
        · have := h.lt c
          exact if_neg (by omega)
        · subst c
          exact if_neg (by omega)
        · have := h.lt c
          exact if_neg (by omega)
    have eC : ∀ u (x : Nat), u < L → Tq y u + 2 ≤ x → (x : Int) < Tq y u + (2 + y.D) → R.m.g x = m.g x := fun u x hu x1 x2 => by
      have b1 := h.beg (v := u)
      rw [e, if_neg (by omega)]
      by_cases hc : m.g (Tq y v).toNat + 1 < m.g (Tq y v + 1).toNat
      · rw [if_pos hc, if_pos hc]
        rcases Nat.lt_trichotomy u v with c | c | c
        · have := h.lt c
          exact if_neg (by omega)
        · subst c
          exact if_neg (by omega)
        · have := h.lt c
          exact if_neg (by omega)
      · rw [if_neg hc, if_neg hc]
        rcases Nat.lt_trichotomy u v with c | c | c
        · have := h.lt c
          exact if_neg (by omega)
        · subst c
          exact if_neg (by omega)
        · have := h.lt c
          exact if_neg (by omega)
    clear e
    refine .inr ⟨r1, v, hv, hpos, fun u h1 h2 => ?_, ?_, hwf, fun u hu => ?_, fun u j hu hj => ?_, fun u j hu hj => ?_⟩
    · have := r4 u h1 h2
      have := hw.len u h2
      omega
    · rw [r5, show m.g (Tq y v + 1).toNat - 1 = m.g (Tq y v).toNat + ((ls v - 1 : Nat) : Int) by omega, hval]
      exact w64 (by omega)
    · show _ = _ + ((if u = v then ls v - 1 else ls u : Nat) : Int)
      rw [eT u hu, eS u hu]
      have hlu := hw.len u hu
      by_cases c : u = v
      · subst c
        rw [if_pos rfl]
        by_cases c1 : ls u = 1
        · rw [if_neg (by omega), if_pos (by omega)]
          omega
        · rw [if_pos (by omega), if_neg (by omega)]
          omega
      · rw [if_neg c, if_neg (fun h => c h.1), if_neg (fun h => c h.1)]
        exact hlu
    · have b1 := h.beg (v := u)
      have q2 := Int.emod_nonneg (m.g (Tq y u).toNat + (j : Int)) (show y.D ≠ 0 by omega)
      have q3 := Int.emod_lt_of_pos (m.g (Tq y u).toNat + (j : Int)) (show 0 < y.D by omega)
      have hlt : j < ls u := by
        by_cases c : u = v
        · subst c
          simp only [if_pos] at hj
          omega
        · simp only [if_neg c] at hj
          exact hj
      have hne : ¬ (u = v ∧ ls v = 1) := fun c => by
        simp only [if_pos c.1] at hj
        omega
      rw [eT u hu, if_neg hne, eC u _ hu (by omega) (by omega)]
      exact hw.val u j hu hlt
    · refine hw.rng u j hu ?_
      by_cases c1 : u = v
      · subst c1
        simp only [if_pos] at hj
        omega
      · simp only [if_neg c1] at hj
        exact hj
end
end Go.Proofs.Ytomaagmleafjeaa.Md
