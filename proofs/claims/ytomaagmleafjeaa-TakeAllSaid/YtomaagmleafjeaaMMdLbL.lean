/- The deques of a worker alone: Push and Pop keep them as they should be. -/
import Derived.Test.YtomaagmleafjeaaMMdLv
import Derived.Test.YtomaagmleafjeaaMMdBitD
import Derived.Test.YtomaagmleafjeaaMW
set_option linter.unusedVariables false
set_option linter.unusedSimpArgs false
set_option linter.unusedVariables false
set_option linter.unusedSimpArgs false
set_option maxRecDepth 100000
namespace Go.Proofs.Ytomaagmleafjeaa.Md
open Go Go.RowKit Sx Cn Dc Ck Vc
section
variable {y : Ly} {n L : Nat} {m : Mm} {v : Nat} {M : Nat}
theorem orB_or {B : Int} {u v : Nat} (h0 : 0 ≤ B) (h1 : B < 64) (hv : v < 6) (hu : u < 6) : bitN (orB B v) v ∧ (bitN B u → bitN (orB B v) u) := by
  have h := or_fin ⟨B.toNat, by omega⟩ ⟨v, hv⟩ ⟨u, hu⟩
  simp only at h
  unfold bitN orB
  split
  · rename_i hc
    rw [if_pos hc] at h
    exact h
  · rename_i hc
    rw [if_neg hc] at h
    have e : ∀ K : Nat, (B + (K : Int)).toNat = B.toNat + K := fun K => by omega
    rw [e]
    exact h
theorem orB_lim {B : Int} {v : Nat} (h0 : 0 ≤ B) (hL : L ≤ 6) (h1 : B < 2 ^ L) (hv : v < L) : 0 ≤ orB B v ∧ orB B v < 2 ^ L := by
  have hp := pow_le hL
  have e : ((2 ^ L : Nat) : Int) = (2 : Int) ^ L := Int.natCast_pow ..
  have h := lim_fin ⟨L, by omega⟩ ⟨B.toNat, by omega⟩ ⟨v, by omega⟩ (by show B.toNat < 2 ^ L; omega) hv
  simp only at h
  unfold orB
  split
  · exact ⟨h0, h1⟩
  · rename_i hc
    rw [if_neg hc] at h
    generalize 2 ^ v = K at *
    omega
theorem pop_wf (h : Qp y n L) (hw : Wf y n L m) (hM : 45 ≤ M) {val : Int} (hb : ∀ u, u < L → m.g (Tq y u + 1).toNat ≤ val) :
    Wf y n L (popR y n 0 M m).m ∧ (∀ u, u < L → (popR y n 0 M m).m.g (Tq y u + 1).toNat ≤ val) ∧ ((popR y n 0 M m).c = 2 → (popR y n 0 M m).m.g y.bm.toNat = 0) := by
  have hr := pop_res h hw hM
  generalize popR y n 0 M m = R at *
  have hD := h.hD
  have hB := h.hbm
  have hp := pow_le h.hLs
  have hB2 := hw.B
  have hpos : (0 : Int) < 2 ^ L := Int.pow_pos (by omega)
  rcases hr with ⟨r1, r2, r3⟩ | ⟨r1, v, hv, r3, r4, r5, B, r6, r7, e⟩
  · have eT : ∀ u, u < L → R.m.g (Tq y u).toNat = m.g (Tq y u).toNat ∧ R.m.g (Tq y u + 1).toNat = m.g (Tq y u + 1).toNat := fun u hu => by
      have b1 := h.beg (v := u)
      exact ⟨by rw [r3, if_neg (by omega)], by rw [r3, if_neg (by omega)]⟩
    have eB : R.m.g y.bm.toNat = 0 := by rw [r3, if_pos (by omega)]
    refine ⟨Wf.of h hw (fun e' => ?_) eT eB ⟨by omega, hpos⟩ (fun u hu hl => ?_), fun u hu => ?_, fun _ => eB⟩
    · rw [r3]
      have := hw.ok e'
      split <;> omega
    · have := r2 u hu
      omega
    · rw [(eT u hu).2]
      exact hb u hu
  · have ht := hw.t v hv
    have eB : R.m.g y.bm.toNat = B := by rw [e, if_pos (by omega)]
    have eT : ∀ u, u < L → R.m.g (Tq y u).toNat = (if u = v ∧ ¬ m.g (Tq y v).toNat + 1 < m.g (Tq y v + 1).toNat then m.g (Tq y v).toNat + 1 else m.g (Tq y u).toNat) := fun u hu => by
      have b1 := h.beg (v := u)
      have b2 := h.beg (v := v)
      rw [e, if_neg (by omega)]
      by_cases hc : m.g (Tq y v).toNat + 1 < m.g (Tq y v + 1).toNat
      · simp only [if_pos hc]
        rcases Nat.lt_trichotomy u v with c | c | c
        · have := h.lt c
          rw [if_neg (by omega), if_neg (by omega)]
        · subst c
          rw [if_neg (by omega), if_neg (by omega)]
        · have := h.lt c
          rw [if_neg (by omega), if_neg (by omega)]
      · simp only [if_neg hc]
        rcases Nat.lt_trichotomy u v with c | c | c
        · have := h.lt c
          rw [if_neg (by omega), if_neg (by omega)]
        · subst c
          rw [if_pos (by omega), if_pos ⟨rfl, hc⟩]
        · have := h.lt c
          rw [if_neg (by omega), if_neg (by omega)]
    have eS : ∀ u, u < L → R.m.g (Tq y u + 1).toNat = (if u = v ∧ m.g (Tq y v).toNat + 1 < m.g (Tq y v + 1).toNat then m.g (Tq y v + 1).toNat - 1 else m.g (Tq y u + 1).toNat) := fun u hu => by
      have b1 := h.beg (v := u)
      have b2 := h.beg (v := v)
      rw [e, if_neg (by omega)]
      by_cases hc : m.g (Tq y v).toNat + 1 < m.g (Tq y v + 1).toNat
      · simp only [if_pos hc]
        rcases Nat.lt_trichotomy u v with c | c | c
        · have := h.lt c
          rw [if_neg (by omega), if_neg (by omega)]
        · subst c
          rw [if_pos (by omega), if_pos ⟨rfl, hc⟩]
        · have := h.lt c
          rw [if_neg (by omega), if_neg (by omega)]
      · simp only [if_neg hc]
        rcases Nat.lt_trichotomy u v with c | c | c
        · have := h.lt c
          rw [if_neg (by omega), if_neg (by omega)]
        · subst c
          rw [if_neg (by omega), if_neg (by omega)]
        · have := h.lt c
          rw [if_neg (by omega), if_neg (by omega)]
    refine ⟨⟨fun e' => ?_, fun u hu => ?_, by rw [eB]; exact r6, fun u hu hl => ?_⟩, fun u hu => ?_, fun hc => by omega⟩
    · rw [e]
      have := hw.ok e'
      split
      · omega
      · split
        · split <;> omega
        · omega
    · rw [eT u hu, eS u hu]
      have := hw.t u hu
      by_cases c : u = v
      · subst c
        by_cases hc : m.g (Tq y u).toNat + 1 < m.g (Tq y u + 1).toNat
        · rw [if_neg (fun h => h.2 hc), if_pos ⟨rfl, hc⟩]
          omega
        · rw [if_pos ⟨rfl, hc⟩, if_neg (fun h => hc h.2)]
          omega
      · rw [if_neg (fun h => c h.1), if_neg (fun h => c h.1)]
        omega
    · rw [eB]
      rw [eT u hu, eS u hu] at hl
      by_cases c : u = v
      · subst c
        exact r7 u hu r3
      · rw [if_neg (fun h => c h.1), if_neg (fun h => c h.1)] at hl
        exact r7 u hu hl
    · rw [eS u hu]
      have := hb u hu
      split
      · rename_i c
        rw [c.1] at this
        omega
      · exact this
end
end Go.Proofs.Ytomaagmleafjeaa.Md
