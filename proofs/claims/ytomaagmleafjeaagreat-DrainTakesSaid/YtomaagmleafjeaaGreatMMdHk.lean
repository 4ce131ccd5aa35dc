/- A heap of keys of different tasks, the plain law. -/
import Derived.Test.YtomaagmleafjeaaGreatMMdHp
set_option linter.unusedVariables false
set_option linter.unusedSimpArgs false
set_option linter.unusedVariables false
set_option linter.unusedSimpArgs false
set_option maxRecDepth 100000
namespace Go.Proofs.YtomaagmleafjeaaGreat.Md
open Go Go.RowKit
/-- A heap of the keys of the tasks that are alive. -/
structure Hk (len n : Nat) (K : Nat → Int) (al : Nat → Bool) (a : Nat → Int) : Prop where
  heap : heap n a
  uni : ∀ v, v < len → cnt a (K v) n = one (al v = true)
  own : ∀ j, j < n → ∃ v, v < len ∧ a j = K v
section
variable {len n : Nat} {K : Nat → Int} {al : Nat → Bool} {a : Nat → Int}
theorem one_t {p : Prop} [Decidable p] (h : p) : one p = 1 := if_pos h
theorem one_f {p : Prop} [Decidable p] (h : ¬ p) : one p = 0 := if_neg h
theorem one_le {p : Prop} [Decidable p] (h : 1 ≤ one p) : p := by
  unfold one at h
  split at h
  · assumption
  · omega
theorem Hk.zero {a : Nat → Int} : Hk len 0 K (fun v => decide (v < 0)) a := ⟨fun j _ h => by omega, fun v hv => by rw [one_f (by simp)]; rfl, fun j h => by omega⟩
theorem Hk.push (h : Hk len n K (fun v => decide (v < n)) a) (hn : n < len) (hK : ∀ u v, u < len → v < len → K u = K v → u = v) : Hk len (n + 1) K (fun v => decide (v < n + 1)) (upM n (K n) a) := by
  have hc : ∀ x, cnt (upM n (K n) a) x (n + 1) = cnt a x n + one (K n = x) := fun x => by
    have h1 := up_cnt (x := x) (k := K n) (n := n + 1) (i := n) (g := a) (by omega)
    have h2 : cnt a x (n + 1) = cnt a x n + one (a n = x) := rfl
    omega
  refine ⟨up_heap (by omega) (fun j j0 jn jp jq => h.heap j j0 (by omega)) (fun j j0 jn jq => by omega), fun v hv => ?_, fun j hj => ?_⟩
  · rw [hc, h.uni v hv]
    by_cases c : v = n
    · subst c
      rw [one_t rfl, one_f (by simp), one_t (by simp)]
    · rw [one_f (p := K n = K v) (fun e => c (hK n v hn hv e).symm)]
      by_cases c2 : v < n
      · rw [one_t (by simpa using c2), one_t (by simp; omega)]
      · rw [one_f (by simpa using c2), one_f (by simp; omega)]
  · have h1 := cnt_of hj (rfl : upM n (K n) a j = upM n (K n) a j)
    rw [hc] at h1
    by_cases c : K n = upM n (K n) a j
    · exact ⟨n, hn, c.symm⟩
    · rw [one_f c] at h1
      obtain ⟨i, i1, i2⟩ := cnt_ge (n := n) (by omega)
      obtain ⟨v, v1, v2⟩ := h.own i i1
      exact ⟨v, v1, by rw [← i2, v2]⟩
theorem Hk.pop (h : Hk len (n + 1) K al a) (hK : ∀ u v, u < len → v < len → K u = K v → u = v) : ∃ v, v < len ∧ a 0 = K v ∧ al v = true ∧ Hk len n K (fun u => al u && !decide (u = v)) (if n = 0 then a else dnM n (a n) n 0 a) ∧ ∀ j, j < n → K v ≤ (if n = 0 then a else dnM n (a n) n 0 a) j := by
  obtain ⟨v, v1, v2⟩ := h.own 0 (by omega)
  have hal : al v = true := by
    have h1 := cnt_of (g := a) (x := K v) (n := n + 1) (j := 0) (by omega) v2
    rw [h.uni v v1] at h1
    exact one_le h1
  have hc : ∀ x, cnt (if n = 0 then a else dnM n (a n) n 0 a) x n + one (a 0 = x) = cnt a x (n + 1) := fun x => by
    have h2 : cnt a x (n + 1) = cnt a x n + one (a n = x) := rfl
    by_cases c : n = 0
    · subst c
      rw [if_pos rfl, h2]
    · rw [if_neg c]
      have h1 := dn_cnt (x := x) (y := a n) (n := n) (f := n) (i := 0) (g := a) (by omega)
      omega
  have hmem : ∀ j, j < n → ∃ i, i < n + 1 ∧ a i = (if n = 0 then a else dnM n (a n) n 0 a) j := fun j hj => by
    have h1 := cnt_of hj (rfl : (if n = 0 then a else dnM n (a n) n 0 a) j = (if n = 0 then a else dnM n (a n) n 0 a) j)
    have h2 := hc ((if n = 0 then a else dnM n (a n) n 0 a) j)
    exact cnt_ge (n := n + 1) (by omega)
  refine ⟨v, v1, v2, hal, ⟨?_, fun u hu => ?_, fun j hj => ?_⟩, fun j hj => ?_⟩
  · by_cases c : n = 0
    · subst c
      exact fun j _ h => by omega
    · rw [if_neg c]
      exact dn_heap (by omega) (by omega) (fun j j0 jn jp jq => h.heap j j0 (by omega)) (fun h => by omega)
  · have h1 := hc (K u)
    rw [h.uni u hu, v2] at h1
    by_cases c : u = v
    · subst c
      rw [one_t (p := K u = K u) rfl, one_t hal] at h1
      rw [one_f (by simp)]
      omega
    · rw [one_f (p := K v = K u) (fun e => c (hK v u v1 hu e).symm)] at h1
      cases hu : al u with
      | true => rw [hu, one_t rfl] at h1; rw [one_t (by simp [c])]; omega
      | false => rw [hu, one_f (by decide)] at h1; rw [one_f (by simp)]; omega
  · obtain ⟨i, i1, i2⟩ := hmem j hj
    obtain ⟨u, u1, u2⟩ := h.own i i1
    exact ⟨u, u1, by rw [← i2, u2]⟩
  · obtain ⟨i, i1, i2⟩ := hmem j hj
    rw [← i2, ← v2]
    exact heap_min h.heap i i1
end
end Go.Proofs.YtomaagmleafjeaaGreat.Md
