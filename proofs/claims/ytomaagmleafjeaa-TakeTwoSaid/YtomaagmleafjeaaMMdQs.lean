/- Stacks in deques: pushes of any small values. -/
import Derived.Test.YtomaagmleafjeaaMMdLsL
set_option linter.unusedVariables false
set_option linter.unusedSimpArgs false
set_option maxRecDepth 100000
namespace Go.Proofs.Ytomaagmleafjeaa.Md
open Go Go.RowKit Sx Cn Dc Ck Vc
section
variable {y : Ly} {n L : Nat} {m : Mm} {v : Nat} {M : Nat} {ls : Nat → Nat} {S : Nat → Nat → Int}
theorem push_wf2 (h : Qp y n L) (hw : Wf y n L m) (hv : v < L) (hM : 5 ≤ M) {val : Int} (h0 : 0 ≤ val) (h1 : val ≤ 900000) {bd : Int} (hbd : bd ≤ 900000) (hb : ∀ u, u < L → m.g (Tq y u + 1).toNat ≤ bd) :
    Wf y n L (puR y n 0 v val M m).m ∧ ∀ u, u < L → (puR y n 0 v val M m).m.g (Tq y u + 1).toNat ≤ bd + 1 := by
  have ht := hw.t v hv
  have hD := h.hD
  have hB := h.hbm
  have hp := pow_le h.hLs
  have hB2 := hw.B
  by_cases hf : m.g (Tq y v + 1).toNat = m.g (Tq y v).toNat + y.D
  · obtain ⟨_, e⟩ := push_full (val := val) h hw hv hM hf
    refine ⟨Wf.of h hw (fun e' => by rw [e]; exact hw.ok e') (fun u hu => ⟨e _, e _⟩) (e _) hw.B hw.bit, fun u hu => ?_⟩
    rw [e]
    have := hb u hu
    omega
  · obtain ⟨_, e⟩ := push_fine (val := val) h hw hv hM ⟨h0, by omega⟩ (by omega)
    generalize (puR y n 0 v val M m).m = m' at *
    have r1 := Int.emod_nonneg (m.g (Tq y v + 1).toNat) (show y.D ≠ 0 by omega)
    have r2 := Int.emod_lt_of_pos (m.g (Tq y v + 1).toNat) (show 0 < y.D by omega)
    have hlim := orB_lim hB2.1 h.hLs hB2.2 hv
    have hor : ∀ u, u < L → bitN (orB (m.g y.bm.toNat) v) v ∧ (bitN (m.g y.bm.toNat) u → bitN (orB (m.g y.bm.toNat) v) u) := fun u hu => orB_or hB2.1 (by omega) (by have := h.hLs; omega) (by have := h.hLs; omega)
    have eB : m'.g y.bm.toNat = orB (m.g y.bm.toNat) v := by rw [e, if_pos (by omega)]
    have eT : ∀ u, u < L → m'.g (Tq y u).toNat = m.g (Tq y u).toNat := fun u hu => by
      have b1 := h.beg (v := u)
      have b2 := h.beg (v := v)
      rw [e, if_neg (by omega)]
      rcases Nat.lt_trichotomy u v with c | c | c
      · have := h.lt c
        rw [if_neg (by omega), if_neg (by omega)]
      · subst c
        rw [if_neg (by omega), if_neg (by omega)]
      · have := h.lt c
        rw [if_neg (by omega), if_neg (by omega)]
    have eS : ∀ u, u < L → m'.g (Tq y u + 1).toNat = if u = v then m.g (Tq y v + 1).toNat + 1 else m.g (Tq y u + 1).toNat := fun u hu => by
      have b1 := h.beg (v := u)
      have b2 := h.beg (v := v)
      rw [e, if_neg (by omega)]
      rcases Nat.lt_trichotomy u v with c | c | c
      · have := h.lt c
        rw [if_neg (by omega), if_neg (by omega), if_neg (by omega)]
      · subst c
        rw [if_pos (by omega), if_pos rfl]
      · have := h.lt c
        rw [if_neg (by omega), if_neg (by omega), if_neg (by omega)]
    refine ⟨⟨fun e' => ?_, fun u hu => ?_, ?_, fun u hu hl => ?_⟩, fun u hu => ?_⟩
    · rw [e]
      have := hb v hv
      have := hw.ok e'
      split
      · omega
      · split
        · omega
        · split
          · omega
          · omega
    · rw [eT u hu, eS u hu]
      have := hw.t u hu
      have := hb v hv
      split
      · rename_i c
        subst c
        omega
      · omega
    · rw [eB]
      exact hlim
    · rw [eB]
      rw [eT u hu, eS u hu] at hl
      by_cases c : u = v
      · subst c
        exact (hor u hu).1
      · rw [if_neg c] at hl
        exact (hor u hu).2 (hw.bit u hu hl)
    · rw [eS u hu]
      have := hb u hu
      split
      · rename_i c
        subst c
        omega
      · omega
theorem push_ws2 (h : Qp y n L) (hw : Ws y n L m ls S) (hv : v < L) (hM : 5 ≤ M) {val : Int} (h0 : 0 ≤ val) (h1 : val ≤ 900000) {bd : Int} (hbd : bd ≤ 900000) (hb : ∀ u, u < L → m.g (Tq y u + 1).toNat ≤ bd) :
    ((ls v : Int) = y.D ∧ (puR y n 0 v val M m).c = 3 ∧ Ws y n L (puR y n 0 v val M m).m ls S) ∨
    ((ls v : Int) < y.D ∧ (puR y n 0 v val M m).c = 0 ∧ Ws y n L (puR y n 0 v val M m).m (fun u => if u = v then ls v + 1 else ls u) (fun u j => if u = v ∧ j = ls v then val else S u j)) := by
  have hwf := (push_wf2 (v := v) (M := M) h hw.wf hv hM h0 h1 hbd hb).1
  have ht := hw.wf.t v hv
  have hlen := hw.len v hv
  have hD := h.hD
  have hB := h.hbm
  by_cases hf : m.g (Tq y v + 1).toNat = m.g (Tq y v).toNat + y.D
  · obtain ⟨c, e⟩ := push_full (val := val) h hw.wf hv hM hf
    refine .inl ⟨by omega, c, hwf, fun u hu => ?_, fun u j hu hj => ?_, hw.rng⟩
    · rw [e, e]; exact hw.len u hu
    · rw [e, e]; exact hw.val u j hu hj
  · obtain ⟨c, e⟩ := push_fine (val := val) h hw.wf hv hM ⟨h0, by omega⟩ (by omega)
    clear hb
    generalize (puR y n 0 v val M m).m = m' at *
    have r1 := Int.emod_nonneg (m.g (Tq y v + 1).toNat) (show y.D ≠ 0 by omega)
    have r2 := Int.emod_lt_of_pos (m.g (Tq y v + 1).toNat) (show 0 < y.D by omega)
    have eT : ∀ u, u < L → m'.g (Tq y u).toNat = m.g (Tq y u).toNat := fun u hu => by
      have b1 := h.beg (v := u)
      have b2 := h.beg (v := v)
      rw [e, if_neg (by omega)]
      rcases Nat.lt_trichotomy u v with c | c | c
      · have := h.lt c
        rw [if_neg (by omega), if_neg (by omega)]
      · subst c
        rw [if_neg (by omega), if_neg (by omega)]
      · have := h.lt c
        rw [if_neg (by omega), if_neg (by omega)]
    have eS : ∀ u, u < L → m'.g (Tq y u + 1).toNat = if u = v then m.g (Tq y v + 1).toNat + 1 else m.g (Tq y u + 1).toNat := fun u hu => by
      have b1 := h.beg (v := u)
      have b2 := h.beg (v := v)
      rw [e, if_neg (by omega)]
      rcases Nat.lt_trichotomy u v with c | c | c
      · have := h.lt c
        rw [if_neg (by omega), if_neg (by omega), if_neg (by omega)]
      · subst c
        rw [if_pos (by omega), if_pos rfl]
      · have := h.lt c
        rw [if_neg (by omega), if_neg (by omega), if_neg (by omega)]
    refine .inr ⟨by omega, c, hwf, fun u hu => ?_, fun u j hu hj => ?_, fun u j hu hj => ?_⟩
    · show _ = _ + ((if u = v then ls v + 1 else ls u : Nat) : Int)
      rw [eT u hu, eS u hu]
      have := hw.len u hu
      by_cases c : u = v
      · subst c
        rw [if_pos rfl, if_pos rfl]
        omega
      · rw [if_neg c, if_neg c]
        exact this
    · rw [eT u hu]
      have b1 := h.beg (v := u)
      have b2 := h.beg (v := v)
      have q1 := Int.emod_nonneg (m.g (Tq y u).toNat + j) (show y.D ≠ 0 by omega)
      have q2 := Int.emod_lt_of_pos (m.g (Tq y u).toNat + j) (show 0 < y.D by omega)
      have hlu := hw.len u hu
      have htu := hw.wf.t u hu
      rw [e, if_neg (by omega)]
      rcases Nat.lt_trichotomy u v with c | c | c
      · have := h.lt c
        simp only [if_neg (show ¬ u = v by omega)] at hj
        rw [if_neg (by omega), if_neg (by omega), if_neg (by omega)]
        exact hw.val u j hu hj
      · subst c
        simp only [if_pos] at hj
        rw [if_neg (by omega)]
        by_cases cj : j = ls u
        · subst cj
          rw [hlu, if_pos (by omega), if_pos ⟨rfl, rfl⟩]
        · have hne := mod_ne (t := m.g (Tq y u).toNat) (i := j) (j := ls u) (D := y.D) (by omega) (by omega) (by omega)
          rw [hlu, if_neg (by omega), if_neg (fun h => cj h.2)]
          exact hw.val u j hu (by omega)
      · have := h.lt c
        simp only [if_neg (show ¬ u = v by omega)] at hj
        rw [if_neg (by omega), if_neg (by omega), if_neg (by omega)]
        exact hw.val u j hu hj
    · by_cases c : u = v ∧ j = ls v
      · rw [if_pos c]
        omega
      · rw [if_neg c]
        refine hw.rng u j hu ?_
        by_cases c1 : u = v
        · subst c1
          simp only [if_pos] at hj
          omega
        · simp only [if_neg c1] at hj
          exact hj
end
end Go.Proofs.Ytomaagmleafjeaa.Md
